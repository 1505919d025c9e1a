/-
  Own work, part of the proof of the laws SeenLasts, SeenCalm, SeenConflict: steps one after the other; what is sound and visible.
-/
import Derived.Test.YthhlhddnndlhkaaGreatDoorKE
import Derived.Test.YthhlhddnndlhkaaGreatDoorKF
import Derived.Test.YthhlhddnndlhkaaGreatDoorKG
set_option maxRecDepth 4000
set_option linter.unusedVariables false
set_option linter.unusedSimpArgs false
set_option linter.unusedSectionVars false
set_option linter.unnecessarySimpa false
namespace Go.AM
open Go Go.Proofs
def nI (l:List Nat):List Int:=l.map fun (n:Nat)=>(n:Int)
theorem BT (l:List Nat):(nI l).length=l.length:=by simp [nI]
theorem Wt (l:List Nat) (x:Nat):nI l++[(x:Int)]=nI (l++[x]):=by simp [nI]
theorem Ahd (l:List Nat) (j x:Nat):(nI l).set j (x:Int)=nI (l.set j x):=by simp [nI]
theorem Ahc {l:List Nat} {j:Nat} (h:j < l.length):(nI l).getD j 0=(l[j]:Nat):=by simp [nI,h]
def Ry (t:A2) (u:Nat) (k:Nat):List Nat:=(List.range k).filter fun i=>decide ((t.at i).up=u)
theorem AfY {t:A2} {u k:Nat} (h:decide ((t.at k).up=(u:Int))=true):Ry t u (k+1)=Ry t u k++[k]:=by
 rw [Ry,List.range_succ,List.filter_append];simp [h,Ry,of_decide_eq_true h]
theorem AfX {t:A2} {u k:Nat} (h:decide ((t.at k).up=(u:Int))=false):Ry t u (k+1)=Ry t u k:=by
 rw [Ry,List.range_succ,List.filter_append];simp [h,Ry,of_decide_eq_false h]
theorem A9P (t:A2) (u k:Nat):(Ry t u k).length≤k:=by
 refine Nat.le_trans (List.length_filter_le _ _) ?_;simp
theorem Abn {h:VH} {ty e b:Nat} {x y y':VV} (k:Kl h e y=Kl h e y'):J4 h ty e b x y=J4 h ty e b x y':=by unfold J4;rw [k]
theorem Abw {h:VH} {ty e j:Nat} {ys:List (List VV)} (k:h[j]? = some (some (AL ty e ys))) (ho:Dr e ys=true):Kl h e (.sl j ys.length 0 ys.length)=Kl h e (.ls ys):=by
 simp only [Kl,C7,k,Eb,Nat.beq_refl,cond_true,TH,Nat.zero_add,Nat.ble_eq,Nat.le_refl,List.drop_zero,List.take_length,ho]
 have:=@A7Y ty e ys
 cases hb:(Nat.beq (AL ty e ys).esz e || (AL ty e ys).nl) with
 | true =>
  have:Nat.ble ys.length ys.length=true:=by simp
  simp [this]
 | false =>
  exfalso
  simp only [Bool.or_eq_false_iff] at hb
  simp only [Bool.or_eq_true,decide_eq_true_eq] at this
  rcases this with h | h
  ·rw [h,Nat.beq_refl] at hb;cases hb.1
  ·rw [h] at hb;cases hb.2
section
variable {V:Am} (C:Au V) {Q:VV→Prop}
include C
set_option maxHeartbeats 4000000 in
theorem NN (t:A2) (ht:A8 t) (u:Nat) (hu:u < t.nodes.length) (hth:0≤(t.at u).thread):VP V WX [vT t,.i .i64 u] Q↔Q (lI (nI (GV t u))):=by
 refine Ad ?_
 rw [Ac C.c_z147.1 C.c_z147.2]
 have h64:=ht.n64
 have hke:GV t u=Ry t u t.nodes.length:=by rw [GV,if_neg (by omega)];rfl
 rw [hke]
 have c0:decide ((u:Int) < 0)=false:=decide_eq_false (by omega)
 have c1:decide ((t.nodes.length:Int)≤u)=false:=decide_eq_false (by omega)
 have c1':decide (t.nodes.length≤u)=false:=decide_eq_false (by omega)
 have c2:decide ((t.at u).thread < 0)=false:=decide_eq_false (by omega)
 simp only [A1z,HT,go_sem,↓reduceIte,c0,c1,c1',hu,A6 hu,c2]
 refine Ai (by decide) t.nodes.length (by omega) (I:=fun k F h=>A4.tmp F 1 = .i .i64 u∧A4.tmp F 2 = .fp (eT t) 0∧∃ L,L=nI (Ry t u k)∧A4.tmp F 5 = .sl 0 L.length 0 L.length∧h=[some (AL AG 1 (L.map eI))]) ?_ ?_ ?_ 0 _ _ (Nat.zero_le _) ?_ ?_
 ·rintro k F h hk p6 ⟨p1,p2,L,hL,p5,rfl⟩
  simp only [HT,go_sem,↓reduceIte,p1,p2,p5,p6]
  exact ⟨L,hL,rfl,rfl⟩
 ·rintro k F h hk p6 ⟨p1,p2,L,hL,p5,rfl⟩
  have hlen:=A9P t u k
  have b1:(L.length+1) * 8≤A7:=by rw [hL,BT];unfold A7;omega
  cases c3:decide ((t.at k).up=(u:Int)) with
  | false =>
   simp only [HT,go_sem,↓reduceIte,p1,p2,p5,p6,hk,A6 hk,c3,A0]
   exact ⟨L,by rw [AfX c3];exact hL,rfl,rfl⟩
  | true =>
   simp only [HT,go_sem,↓reduceIte,p1,p2,p5,p6,hk,A6 hk,c3,A0,b1,PM,List.length_append,List.length_map]
   exact ⟨L++[(k:Int)],by rw [AfY c3,hL,Wt],by simp,rfl⟩
 ·rintro F h ⟨p1,p2,L,hL,p5,rfl⟩
  subst hL
  simp only [HT,go_sem,↓reduceIte,p1,p2,p5,List.length_map]
 ·simp only [HT,go_sem,↓reduceIte]
 ·simp only [HT,go_sem,↓reduceIte]
  exact ⟨[],rfl,rfl,rfl⟩
set_option maxHeartbeats 4000000 in
theorem HG (t:A2) (ht:A8 t) (u:Nat) (hu:u < t.nodes.length):VP V WY [vT t,.i .i64 u] Q↔Q (.b (G3 t u)):=by
 refine Ad ?_
 rw [Ac C.c_z148.1 C.c_z148.2]
 have h64:=ht.n64
 have w1:IntKind.i64.wrap ((u:Int)+1)=((u+1:Nat):Int):=by rw [AC (by omega) (by omega)];omega
 unfold G3
 by_cases c1:u+1 < t.nodes.length
 ·have c1':decide (((u+1:Nat):Int) < (t.nodes.length:Int))=true:=decide_eq_true (by omega)
  cases c2:decide ((t.at (u+1)).up=(u:Int)) with
  | false=>simp only [Rk,Pr,go_sem,↓reduceIte,w1,c1,c1',A6 c1,c2]
  | true =>
   have c2':=of_decide_eq_true c2
   simp only [Rk,Pr,go_sem,↓reduceIte,w1,c1,c1',A6 c1,c2]
 ·have c1':decide (((u+1:Nat):Int) < (t.nodes.length:Int))=false:=decide_eq_false (by omega)
  simp only [Rk,Pr,go_sem,↓reduceIte,w1,c1,c1']
set_option maxHeartbeats 8000000 in
theorem Tf (t:A2) (ht:A8 t) (s:A5) (hs:Hq s) (hz:s.has.length < 1000∧s.jf.length < 1000∧∀ l∈s.mo,∀ c∈l,c.length < 1000) {n:Nat} (hn:n < t.nodes.length) {s':A5} (hw:Wlk t s n s') (hml:s.mo.length=t.locs.length)
  (hne:∀ loc,loc < s.mo.length→0 < (s.mo.getD loc []).length) (h1:∀ loc,loc < s.mo.length→∀ c∈s.mo.getD loc [],∃ w:Int,c=[w]):VP V Wx [vT t,J6 s,.i .i64 n] Q↔Q (J6 s'):=by
 refine Ad ?_
 rw [Ac C.c_z105.1 C.c_z105.2]
 cases hw with
 | bar hk e =>
  have hb:=fun (Q:VV→Prop)=>Qf C t ht s hs n (Q:=Q)
  rw [e,Ca] at hb
  simp only [Rg,Po,go_sem,↓reduceIte,hn,A6 hn,hk,hb,A0]
 | read loc hk hloc e =>
  have hl:=ht.wloc hn (.inl hk)
  have hll:loc < s.mo.length:=by omega
  have gL:=Cv hll
  have hm:=hs.mi' loc
  have hp:=hne loc hll
  obtain ⟨w,hw⟩:=h1 loc hll _ (Ap (d:=[]) (show (s.mo.getD loc []).length - 1 < (s.mo.getD loc []).length by omega))
  have hla:DN s loc=w:=by rw [DN,hw];rfl
  have gI:=Hu (xs:=s.mo.getD loc []) (show (s.mo.getD loc []).length - 1 < (s.mo.getD loc []).length by omega)
  rw [hw] at gI
  rw [hla] at e
  obtain ⟨L,hL⟩:∃ L,L=s.mo.getD loc []:=⟨_,rfl⟩
  rw [← hL] at gL gI hm hp
  have w1:IntKind.i64.wrap ((L.length:Int) - 1)=((L.length - 1:Nat):Int):=by rw [AC (by omega) (by omega)];omega
  have hlt:L.length - 1 < L.length:=by omega
  have hr:=fun (Q:VV→Prop)=>NO C t ht s hs ⟨hz.1,hz.2.1⟩ n w (Q:=Q)
  rw [e,Ca] at hr
  simp only [Rg,Po,go_sem,↓reduceIte,hn,A6 hn,hk,hloc,hll,gL,gI,w1,hlt,hr,A0]
 | write loc hk hloc e =>
  have hl:=ht.wloc hn (.inr hk)
  have hll:loc < s.mo.length:=by omega
  have gL:=Cv hll
  have hm:=hs.mi' loc
  obtain ⟨L,hL⟩:∃ L,L=s.mo.getD loc []:=⟨_,rfl⟩
  rw [← hL] at gL hm e
  have hr:=fun (Q:VV→Prop)=>Mh C t ht s hs n (L.length:Nat) (Q:=Q)
  rw [e,Ca] at hr
  simp only [Rg,Po,go_sem,↓reduceIte,hn,A6 hn,hk,hloc,hll,gL,hr,A0]
end
def MY:Option (Nat×List Int)→VV
 | none=>.tu [.i .i64 0,.ls [],.b false]
 | some (to,out)=>.tu [.i .i64 (to:Nat),lI out,.b true]
theorem Ab6 (l:List Int) (k:Nat) (v:Int):(l.map eI).set k [.i .i64 v]=(l.set k v).map eI:=by rw [List.map_set]
theorem A4h {l:List Nat} {p:Nat→Bool} {k:Nat} (hk:k < l.length) (h:∀ j,j < k→∀ hj:j < l.length,p l[j]=false) (hp:p l[k]=true):l.find? p=some l[k]:=by
 rw [List.find?_eq_some_iff_getElem]
 exact ⟨hp,k,hk,rfl,fun j hj=>by rw [h j hj (by omega)];rfl⟩
theorem A4i {l:List Nat} {p:Nat→Bool} (h:∀ j,j < l.length→∀ hj:j < l.length,p l[j]=false):l.find? p=none:=by
 rw [List.find?_eq_none]
 intro x hx
 obtain ⟨j,hj,rfl⟩:=List.getElem_of_mem hx
 rw [h j hj hj];decide
section
variable {V:Am} (C:Au V) {Q:VV→VH→Prop}
include C
set_option maxHeartbeats 16000000 in
theorem XT (t:A2) (ht:A8 t) {u:Nat} (hu:u < t.nodes.length) (hth:0≤(t.at u).thread) (mem:List Int) (hm:mem.length=t.locs.length) (x0 x1 x2 x3 x4 x5:Option VO) :
  Hj V JS [vT t,.i .i64 u,lI mem] [x0,x1,x2,x3,x4,x5] Q↔Q (MY (Hb t u mem)) [x0,x1,x2,x3,x4,x5]:=by
 refine G8 ?_
 rw [CN C.h_z104]
 have h64:=ht.n64
 have l4:=ht.l4
 unfold Hb
 cases cf:(t.at u).fin with
 | true =>
  simp only [KB,BC,go_sem,↓reduceIte,hu,A6 hu,cf]
  rfl
 | false =>
 simp only [KB,BC,go_sem,↓reduceIte,hu,A6 hu,cf,NN C t ht u hu hth]
 have hKm:∀ i∈GV t u,i < t.nodes.length∧(t.at i).up=(u:Int):=by
  intro i hi
  unfold GV at hi
  rw [if_neg (by omega)] at hi
  simpa only [List.mem_filter,List.mem_range,decide_eq_true_eq] using hi
 have hKl:(GV t u).length≤64:=by
  unfold GV
  rw [if_neg (by omega)]
  refine Nat.le_trans (List.length_filter_le _ _) ?_
  simpa using h64
 obtain ⟨K,hK⟩:∃ K,K=GV t u:=⟨_,rfl⟩
 rw [← hK] at hKm hKl ⊢
 refine Ai (by decide) K.length (by omega) (I:=fun k F h=>(∀ j,j < k→∀ hj:j < K.length,Gu t mem K[j]=false)∧A4.tmp F 2=lI mem∧A4.tmp F 3 = .fp (eT t) 0∧A4.tmp F 9=lI (nI K)∧h=[x0,x1,x2,x3,x4,x5]) ?_ ?_ ?_ 0 _ _ (Nat.zero_le _) ?_ ?_
 ·rintro k F h hk p10 ⟨hj,p2,p3,p9,rfl⟩
  simp only [BC,go_sem,↓reduceIte,p2,p3,p9,p10,BT]
  exact hj
 ·rintro k F h hk p10 ⟨hj,p2,p3,p9,rfl⟩
  obtain ⟨hin,hiu⟩:=hKm K[k] (List.getElem_mem hk)
  have gK:(nI K)[k]? = some ((K[k]:Nat):Int):=by simp [nI,hk]
  have hnext:Gu t mem K[k]=false→∀ j,j < k+1→∀ hj:j < K.length,Gu t mem K[j]=false:=fun hc j h1 h2=>by
   by_cases c:j=k
   ·subst c;exact hc
   ·exact hj j (by omega) h2
  have hfind:Gu t mem K[k]=true→K.find? (Gu t mem)=some K[k]:=fun hc=>A4h hk hj hc
  have hb8:mem.length * 8≤A7:=by unfold A7;omega
  have htk:∀ n v,List.take mem.length (mem.set n v)=mem.set n v:=fun n v=>List.take_of_length_le (by rw [List.length_set];exact Nat.le_refl _)
  generalize K[k]=i at hin hiu gK hnext hfind
  cases c2:decide ((t.at i).kind=2) with
  | true =>
   have c2':=of_decide_eq_true c2
   have hl:=ht.wloc hin (.inl c2')
   obtain ⟨loc,hloc⟩:=Int.eq_ofNat_of_zero_le hl.1
   have hll:loc < mem.length:=by omega
   have gm:=Az hll
   cases cv:decide ((t.at i).val=mem.getD loc 0) with
   | false =>
    have hc:Gu t mem i=false:=by simp only [Gu,c2,hloc,Int.toNat_natCast,cv];rfl
    simp only [BC,go_sem,↓reduceIte,p2,p3,p9,p10,hk,BT,gK,hin,A6 hin,c2,hloc,hll,gm,cv,A0]
    exact hnext hc
   | true =>
    have hc:Gu t mem i=true:=by simp only [Gu,cv,hloc,Int.toNat_natCast,Bool.or_true]
    have hfd:=hfind hc
    cases cr:G3 t i with
    | false =>
     have hto:Yo t i=i:=by rw [Yo,if_neg (by rw [cr];simp)]
     have ho:H7 t mem i=mem:=by rw [H7,if_neg (by omega)]
     have c3:decide ((t.at i).kind=3)=false:=decide_eq_false (by omega)
     simp only [BC,go_sem,↓reduceIte,p2,p3,p9,p10,hk,BT,gK,hin,A6 hin,c2,hloc,hll,gm,cv,HG C t ht i hin,cr,c3,A0,hb8]
     simp only [hfd,Option.map_some,hto,ho,MY]
     all_goals trivial
    | true =>
     have hr:=cr
     simp only [G3,Bool.and_eq_true,decide_eq_true_eq] at hr
     obtain ⟨⟨r1,r2⟩,r3⟩:=hr
     have k3:=ht.rmw3 r1 (by omega) r3
     have c3:decide ((t.at (i+1)).kind=3)=true:=decide_eq_true k3
     have hl2:=ht.wloc r1 (.inr k3)
     obtain ⟨loc2,hloc2⟩:=Int.eq_ofNat_of_zero_le hl2.1
     have hll2:loc2 < mem.length:=by omega
     have gm2:=Az hll2
     have hto:Yo t i=i+1:=by rw [Yo,if_pos ⟨c2',cr⟩]
     have ho:H7 t mem (i+1)=mem.set loc2 (t.at (i+1)).val:=by rw [H7,if_pos k3,hloc2,Int.toNat_natCast]
     have w1:IntKind.i64.wrap ((i:Int)+1)=((i+1:Nat):Int):=by rw [AC (by omega) (by omega)];omega
     simp only [BC,go_sem,↓reduceIte,p2,p3,p9,p10,hk,BT,gK,hin,A6 hin,c2,hloc,hll,gm,cv,HG C t ht i hin,cr,w1,r1,A6 r1,c3,hloc2,hll2,gm2,A0,hb8,Ab6,List.length_map,List.length_set,htk]
     simp only [hfd,Option.map_some,hto,ho,MY]
     all_goals trivial
  | false =>
   have c2':=of_decide_eq_false c2
   have hc:Gu t mem i=true:=by simp only [Gu,c2];rfl
   have hfd:=hfind hc
   have hto:Yo t i=i:=by rw [Yo,if_neg (fun h=>c2' h.1)]
   cases c3:decide ((t.at i).kind=3) with
   | false =>
    have ho:H7 t mem i=mem:=by rw [H7,if_neg (of_decide_eq_false c3)]
    simp only [BC,go_sem,↓reduceIte,p2,p3,p9,p10,hk,BT,gK,hin,A6 hin,c2,c3,A0,hb8]
    simp only [hfd,Option.map_some,hto,ho,MY]
    all_goals trivial
   | true =>
    have k3:=of_decide_eq_true c3
    have hl2:=ht.wloc hin (.inr k3)
    obtain ⟨loc2,hloc2⟩:=Int.eq_ofNat_of_zero_le hl2.1
    have hll2:loc2 < mem.length:=by omega
    have gm2:=Az hll2
    have ho:H7 t mem i=mem.set loc2 (t.at i).val:=by rw [H7,if_pos k3,hloc2,Int.toNat_natCast]
    simp only [BC,go_sem,↓reduceIte,p2,p3,p9,p10,hk,BT,gK,hin,A6 hin,c2,c3,hloc2,hll2,gm2,A0,hb8,Ab6,List.length_map,List.length_set,htk]
    simp only [hfd,Option.map_some,hto,ho,MY]
    all_goals trivial
 ·rintro F h ⟨hj,p2,p3,p9,rfl⟩
  have hno:=A4i hj
  simp only [BC,go_sem,↓reduceIte,p2,p3,p9]
  rw [hno]
  rfl
 ·simp only [BC,go_sem,↓reduceIte]
 ·simp only [BC,go_sem,↓reduceIte]
  exact fun j hj=>absurd hj (Nat.not_lt_zero _)
set_option maxHeartbeats 16000000 in
theorem XU (t:A2) (ht:A8 t) {u:Nat} (hu:u < t.nodes.length) (hth:0≤(t.at u).thread) (mem:List Int) (hm:mem.length=t.locs.length) (x0 x1 x2 x4 x5:Option VO) :
  Hj V JS [vT t,.i .i64 u,.sl 3 mem.length 0 mem.length] [x0,x1,x2,some (AL AG 1 (mem.map eI)),x4,x5] Q↔Q (MY (Hb t u mem)) [x0,x1,x2,some (AL AG 1 (mem.map eI)),x4,x5]:=by
 refine G8 ?_
 rw [CN C.h_z104]
 have h64:=ht.n64
 have l4:=ht.l4
 unfold Hb
 cases cf:(t.at u).fin with
 | true =>
  simp only [KB,BC,go_sem,↓reduceIte,hu,A6 hu,cf]
  rfl
 | false =>
 simp only [KB,BC,go_sem,↓reduceIte,hu,A6 hu,cf,NN C t ht u hu hth]
 have hKm:∀ i∈GV t u,i < t.nodes.length∧(t.at i).up=(u:Int):=by
  intro i hi
  unfold GV at hi
  rw [if_neg (by omega)] at hi
  simpa only [List.mem_filter,List.mem_range,decide_eq_true_eq] using hi
 have hKl:(GV t u).length≤64:=by
  unfold GV
  rw [if_neg (by omega)]
  refine Nat.le_trans (List.length_filter_le _ _) ?_
  simpa using h64
 obtain ⟨K,hK⟩:∃ K,K=GV t u:=⟨_,rfl⟩
 rw [← hK] at hKm hKl ⊢
 refine Ai (by decide) K.length (by omega) (I:=fun k F h=>(∀ j,j < k→∀ hj:j < K.length,Gu t mem K[j]=false)∧A4.tmp F 2 = .sl 3 mem.length 0 mem.length∧A4.tmp F 3 = .fp (eT t) 0∧A4.tmp F 9=lI (nI K)∧h=[x0,x1,x2,some (AL AG 1 (mem.map eI)),x4,x5]) ?_ ?_ ?_ 0 _ _ (Nat.zero_le _) ?_ ?_
 ·rintro k F h hk p10 ⟨hj,p2,p3,p9,rfl⟩
  simp only [BC,go_sem,↓reduceIte,p2,p3,p9,p10,BT]
  exact hj
 ·rintro k F h hk p10 ⟨hj,p2,p3,p9,rfl⟩
  obtain ⟨hin,hiu⟩:=hKm K[k] (List.getElem_mem hk)
  have gK:(nI K)[k]? = some ((K[k]:Nat):Int):=by simp [nI,hk]
  have hnext:Gu t mem K[k]=false→∀ j,j < k+1→∀ hj:j < K.length,Gu t mem K[j]=false:=fun hc j h1 h2=>by
   by_cases c:j=k
   ·subst c;exact hc
   ·exact hj j (by omega) h2
  have hfind:Gu t mem K[k]=true→K.find? (Gu t mem)=some K[k]:=fun hc=>A4h hk hj hc
  have hsrc:∀ (h:VH) (x:VV) (b:Nat),h[3]? = some (some (AL AG 1 (mem.map eI)))→J4 h AG 1 b x (.sl 3 mem.length 0 mem.length)=J4 h AG 1 b x (.ls (mem.map eI)):=fun h x b hh=>by
   have:=Abw (h:=h) hh (A3c (fun _=>rfl))
   rw [List.length_map] at this
   exact Abn this
  have hb8:mem.length * 8≤A7:=by unfold A7;omega
  have htk:∀ n v,List.take mem.length (mem.set n v)=mem.set n v:=fun n v=>List.take_of_length_le (by rw [List.length_set];exact Nat.le_refl _)
  generalize K[k]=i at hin hiu gK hnext hfind
  cases c2:decide ((t.at i).kind=2) with
  | true =>
   have c2':=of_decide_eq_true c2
   have hl:=ht.wloc hin (.inl c2')
   obtain ⟨loc,hloc⟩:=Int.eq_ofNat_of_zero_le hl.1
   have hll:loc < mem.length:=by omega
   have gm:=Az hll
   have hix:=ES (ty:=AG) (e:=1) (rows:=mem.map eI) (by rw [List.length_map];omega)
   cases cv:decide ((t.at i).val=mem.getD loc 0) with
   | false =>
    have hc:Gu t mem i=false:=by simp only [Gu,c2,hloc,Int.toNat_natCast,cv];rfl
    simp only [BC,go_sem,↓reduceIte,p2,p3,p9,p10,hk,BT,gK,hin,A6 hin,c2,hloc,hll,gm,hix,hsrc,cv,A0]
    exact hnext hc
   | true =>
    have hc:Gu t mem i=true:=by simp only [Gu,cv,hloc,Int.toNat_natCast,Bool.or_true]
    have hfd:=hfind hc
    cases cr:G3 t i with
    | false =>
     have hto:Yo t i=i:=by rw [Yo,if_neg (by rw [cr];simp)]
     have ho:H7 t mem i=mem:=by rw [H7,if_neg (by omega)]
     have c3:decide ((t.at i).kind=3)=false:=decide_eq_false (by omega)
     simp only [BC,go_sem,↓reduceIte,p2,p3,p9,p10,hk,BT,gK,hin,A6 hin,c2,hloc,hll,gm,hix,hsrc,cv,HG C t ht i hin,cr,c3,A0,hb8]
     simp only [hfd,Option.map_some,hto,ho,MY]
     all_goals trivial
    | true =>
     have hr:=cr
     simp only [G3,Bool.and_eq_true,decide_eq_true_eq] at hr
     obtain ⟨⟨r1,r2⟩,r3⟩:=hr
     have k3:=ht.rmw3 r1 (by omega) r3
     have c3:decide ((t.at (i+1)).kind=3)=true:=decide_eq_true k3
     have hl2:=ht.wloc r1 (.inr k3)
     obtain ⟨loc2,hloc2⟩:=Int.eq_ofNat_of_zero_le hl2.1
     have hll2:loc2 < mem.length:=by omega
     have gm2:=Az hll2
     have hto:Yo t i=i+1:=by rw [Yo,if_pos ⟨c2',cr⟩]
     have ho:H7 t mem (i+1)=mem.set loc2 (t.at (i+1)).val:=by rw [H7,if_pos k3,hloc2,Int.toNat_natCast]
     have w1:IntKind.i64.wrap ((i:Int)+1)=((i+1:Nat):Int):=by rw [AC (by omega) (by omega)];omega
     simp only [BC,go_sem,↓reduceIte,p2,p3,p9,p10,hk,BT,gK,hin,A6 hin,c2,hloc,hll,gm,hix,hsrc,cv,HG C t ht i hin,cr,w1,r1,A6 r1,c3,hloc2,hll2,gm2,A0,hb8,Ab6,List.length_map,List.length_set,htk]
     simp only [hfd,Option.map_some,hto,ho,MY]
     all_goals trivial
  | false =>
   have c2':=of_decide_eq_false c2
   have hc:Gu t mem i=true:=by simp only [Gu,c2];rfl
   have hfd:=hfind hc
   have hto:Yo t i=i:=by rw [Yo,if_neg (fun h=>c2' h.1)]
   cases c3:decide ((t.at i).kind=3) with
   | false =>
    have ho:H7 t mem i=mem:=by rw [H7,if_neg (of_decide_eq_false c3)]
    simp only [BC,go_sem,↓reduceIte,p2,p3,p9,p10,hk,BT,gK,hin,A6 hin,c2,hsrc,c3,A0,hb8]
    simp only [hfd,Option.map_some,hto,ho,MY]
    all_goals trivial
   | true =>
    have k3:=of_decide_eq_true c3
    have hl2:=ht.wloc hin (.inr k3)
    obtain ⟨loc2,hloc2⟩:=Int.eq_ofNat_of_zero_le hl2.1
    have hll2:loc2 < mem.length:=by omega
    have gm2:=Az hll2
    have ho:H7 t mem i=mem.set loc2 (t.at i).val:=by rw [H7,if_pos k3,hloc2,Int.toNat_natCast]
    simp only [BC,go_sem,↓reduceIte,p2,p3,p9,p10,hk,BT,gK,hin,A6 hin,c2,hsrc,c3,hloc2,hll2,gm2,A0,hb8,Ab6,List.length_map,List.length_set,htk]
    simp only [hfd,Option.map_some,hto,ho,MY]
    all_goals trivial
 ·rintro F h ⟨hj,p2,p3,p9,rfl⟩
  have hno:=A4i hj
  simp only [BC,go_sem,↓reduceIte,p2,p3,p9]
  rw [hno]
  rfl
 ·simp only [BC,go_sem,↓reduceIte]
 ·simp only [BC,go_sem,↓reduceIte]
  exact fun j hj=>absurd hj (Nat.not_lt_zero _)
end
theorem Ajg {t:A2} {k:Nat} (h1:decide ((t.at k).thread < 0)=false) (h2:decide ((t.at k).up < 0)=true):TJ t (k+1)=TJ t k++[k]:=by
 rw [TJ,List.range_succ,List.filter_append];simp [h1,h2,TJ,of_decide_eq_false h1,of_decide_eq_true h2]
theorem Afg {t:A2} {k:Nat} (h1:decide ((t.at k).thread < 0)=true):TJ t (k+1)=TJ t k:=by
 rw [TJ,List.range_succ,List.filter_append];simp [h1,TJ,of_decide_eq_true h1]
theorem Afh {t:A2} {k:Nat} (h2:decide ((t.at k).up < 0)=false):TJ t (k+1)=TJ t k:=by
 rw [TJ,List.range_succ,List.filter_append];simp [h2,TJ,of_decide_eq_false h2]
theorem Ah9 {t:A2} {k:Nat} (h1:decide ((t.at k).thread < 0)=true):MI t (k+1)=MI t k++[(t.at k).val]:=by
 rw [MI,List.range_succ,List.filter_append];simp [h1,MI,of_decide_eq_true h1]
theorem Aaf {t:A2} {k:Nat} (h1:decide ((t.at k).thread < 0)=false):MI t (k+1)=MI t k:=by
 rw [MI,List.range_succ,List.filter_append];simp [h1,MI,of_decide_eq_false h1]
theorem Ac3 (t:A2) (k:Nat):(TJ t k).length≤k:=by
 refine Nat.le_trans (List.length_filter_le _ _) ?_;simp
theorem Aag (t:A2) (k:Nat):(MI t k).length≤k:=by
 rw [MI,List.length_map];refine Nat.le_trans (List.length_filter_le _ _) ?_;simp
def Mt (t:A2) (at_:List Nat) (mem:List Int) (j:Nat):List Nat:=(List.range j).filter fun i=>(Hb t (at_.getD i 0) mem).isSome
theorem Afo {t:A2} {at_:List Nat} {mem:List Int} {j:Nat} {x:Nat×List Int} (h:Hb t (at_.getD j 0) mem=some x):Mt t at_ mem (j+1)=Mt t at_ mem j++[j]:=by
 rw [Mt,List.range_succ,List.filter_append,List.filter_cons_of_pos (by rw [h];rfl)];rfl
theorem Afn {t:A2} {at_:List Nat} {mem:List Int} {j:Nat} (h:Hb t (at_.getD j 0) mem=none):Mt t at_ mem (j+1)=Mt t at_ mem j:=by
 rw [Mt,List.range_succ,List.filter_append,List.filter_cons_of_neg (by rw [h];decide)];simp [Mt]
theorem A8j (t:A2) (at_:List Nat) (mem:List Int) (k:Nat):(Mt t at_ mem k).length≤k:=by
 refine Nat.le_trans (List.length_filter_le _ _) ?_;simp
def b6:Option VO:=some ⟨Ab,0,0,false,[[.nl,.nl,.nl]]⟩
def b9 (s:A5):Option VO:=some ⟨Ab,0,0,false,[TU s]⟩
def atO (l:List Nat):Option VO:=some (AL AG 1 ((nI l).map eI))
def AbP (mem:List Int) (mv:VV) (x3:Option VO):Prop:=mv=lI mem∨(mv = .sl 3 mem.length 0 mem.length∧x3=some (AL AG 1 (mem.map eI)))
structure RoI (P:A5→Prop) (t:A2) (l:List U8) (r:Nat) (F:A4) (h:VH) (s:A5) (at_:List Nat) (mem:List Int) (k a:Nat) (mv:VV) (x3:Option VO):Prop where
 wi:WI t s mem k
 si:StI t s at_
 rk:r≤k
 ha:a≤l.length
 mv_:AbP mem mv x3
 p3:A4.tmp F 3 = .fp (eT t) 0
 p2:A4.tmp F 2 = .i .i64 70
 p6:A4.tmp F 6 = .p 0 0 0 0
 p9:A4.tmp F 9 = .p 1 0 0 0
 p10:A4.tmp F 10 = .sl 2 at_.length 0 at_.length
 p11:A4.tmp F 11=mv
 p13:A4.tmp F 13 = .p 4 0 0 0
 hh:h=[b6,b9 s,atO at_,x3,MO l a]
 pp:P s
section
variable {V:Am} (C:Au V)
include C
theorem XS (t:A2) (ht:A8 t) {u:Nat} (hu:u < t.nodes.length) (hth:0≤(t.at u).thread) {mem:List Int} (hm:mem.length=t.locs.length) {mv:VV} {x3:Option VO} (k:AbP mem mv x3) (x0 x1 x2 x4 x5:Option VO) {Q:VV→VH→Prop} :
  Hj V JS [vT t,.i .i64 u,mv] [x0,x1,x2,x3,x4,x5] Q↔Q (MY (Hb t u mem)) [x0,x1,x2,x3,x4,x5]:=by
 rcases k with rfl | ⟨rfl,rfl⟩
 ·exact XT C t ht hu hth mem hm x0 x1 x2 x3 x4 x5
 ·exact XU C t ht hu hth mem hm x0 x1 x2 x4 x5
omit C in
theorem AbP.cl {mem:List Int} {mv:VV} {x3:Option VO} (k:AbP mem mv x3) {n:Nat} (hn:3 < n):Ni n mv=mv:=by
 rcases k with rfl | ⟨rfl,rfl⟩
 ·rfl
 ·show (bif Nat.blt 3 n then _ else _)=_
  rw [show Nat.blt 3 n=true from by simp only [Nat.blt_eq];exact hn];rfl
theorem ZE (l:List U8) (x0 x1 x2 x3:Option VO) {Q:VV→VH→Prop}:LS V Qc [lU l] [x0,x1,x2,x3] Q↔Q (.p 4 0 0 0) [x0,x1,x2,x3,MO l 0]:=by
 refine Mp ?_
 rw [Eu C.h_z28]
 simp only [TY,RE,go_sem,↓reduceIte]
 rfl
theorem Aah (l:List U8) (hl:l.length≤1000∧∀ x∈l,x.n < 256) (a:Nat) (ha:a≤l.length) (n:Int) (x0 x1 x2 x3 x5:Option VO) :
  Hj V S8 [.p 4 0 0 0,.i .i64 n] [x0,x1,x2,x3,MO l a,x5] fun v h=>∃ k:Nat,v = .i .i64 k∧(1≤n→(k:Int) < n)∧∃ a',a'≤l.length∧h=[x0,x1,x2,x3,MO l a',x5]:=by
 rw [CN C.h_z79]
 by_cases c1:l.length≤a
 ·simp only [Q1,JJ,go_sem,↓reduceIte,c1]
  exact ⟨0,rfl,fun h=>by omega,a,ha,rfl⟩
 ·by_cases c2:n < 1
  ·simp only [Q1,JJ,go_sem,↓reduceIte,c1,c2]
   exact ⟨0,rfl,fun h=>by omega,a,ha,rfl⟩
  ·have hlt:a < l.length:=by omega
   have hcell:l[a]? = some l[a]:=List.getElem?_eq_getElem hlt
   have hb:=hl.2 _ (List.getElem_mem hlt)
   have w0:IntKind.i64.wrap ((l[a].n:Nat):Int)=(l[a].n:Nat):=AC (by omega) (by omega)
   have w3:((l[a].n:Nat):Int).tmod n=(((l[a].n:Nat):Int) % n):=Int.tmod_eq_emod_of_nonneg (by omega)
   have w1:=Gp (show a < 9223372036854775807 by omega)
   have w2:IntKind.i64.wrap (((a+1:Nat):Int) - 1)=(a:Int):=by rw [AC (by omega) (by omega)];omega
   simp only [Q1,JJ,go_sem,↓reduceIte,c1,c2,hcell,w1,w2,G6 (show n≠0 by omega),w0,w3]
   have m1:=Int.emod_nonneg ((l[a].n:Nat):Int) (show n≠0 by omega)
   have m2:=Int.emod_lt_of_pos ((l[a].n:Nat):Int) (show 0 < n by omega)
   exact ⟨(((l[a].n:Nat):Int) % n).toNat,by omega,fun h=>by omega,a+1,by omega,rfl⟩
set_option maxHeartbeats 16000000 in
theorem Wi (t:A2) (ht:A8 t) {P:A5→Prop} (P0:P (BB t)) (P1:∀ s n s',AZ t s→P s→Wlk t s n s'→P s') (l:List U8) (hl:l.length≤1000∧∀ x∈l,x.n < 256) {Q:VV→Prop} (hq:∀ s mem k at_,WI t s mem k→StI t s at_→(∀ u∈at_,Hb t u mem=none)→P s→Q (.tu [J6 s,.b true,lI mem])):VP V ZT [vT t,lU l,.i .i64 70] Q:=by
 rw [Ac C.c_z56.1 C.c_z56.2]
 have h64:=ht.n64
 simp only [A9j,CJ,go_sem,↓reduceIte,Mg C t ht]
 refine Ai (by decide) t.nodes.length (by omega) (I:=fun k F h=>A4.tmp F 1=lU l∧A4.tmp F 2 = .i .i64 70∧A4.tmp F 3 = .fp (eT t) 0∧A4.tmp F 6 = .p 0 0 0 0∧A4.tmp F 9 = .p 1 0 0 0∧∃ L,L=nI (TJ t k)∧∃ M,M=MI t k∧A4.tmp F 10 = .sl 2 L.length 0 L.length∧A4.tmp F 11 = .sl 3 M.length 0 M.length∧h=[b6,b9 (BB t),some (AL AG 1 (L.map eI)),some (AL AG 1 (M.map eI))]) ?_ ?_ ?_ 0 _ _ (Nat.zero_le _) ?_ ?_
 ·rintro k F h hk p12 ⟨p1,p2,p3,p6,p9,L,hL,M,hM,p10,p11,rfl⟩
  simp only [CJ,go_sem,↓reduceIte,p1,p2,p3,p6,p9,p10,p11,p12]
  exact ⟨L,hL,M,hM,rfl,rfl,rfl⟩
 ·rintro k F h hk p12 ⟨p1,p2,p3,p6,p9,L,hL,M,hM,p10,p11,rfl⟩
  have h1:=Ac3 t k
  have h2:=Aag t k
  have q1:(L.length+1) * 8≤A7:=by rw [hL,BT];unfold A7;omega
  have q2:(M.length+1) * 8≤A7:=by rw [hM];unfold A7;omega
  cases c1:decide ((t.at k).thread < 0) with
  | true =>
   simp only [CJ,go_sem,↓reduceIte,p1,p2,p3,p6,p9,p10,p11,p12,hk,A6 hk,c1,A0,b6,b9,q2,PM,List.length_append,List.length_map]
   exact ⟨L,by rw [Afg c1];exact hL,M++[(t.at k).val],by rw [Ah9 c1,hM],by simp,by simp,rfl⟩
  | false =>
  cases c2:decide ((t.at k).up < 0) with
  | true =>
   simp only [CJ,go_sem,↓reduceIte,p1,p2,p3,p6,p9,p10,p11,p12,hk,A6 hk,c1,c2,A0,b6,b9,q1,PM,List.length_append,List.length_map]
   exact ⟨L++[(k:Int)],by rw [Ajg c1 c2,hL,Wt],M,by rw [Aaf c1];exact hM,by simp,by simp,rfl⟩
  | false =>
   simp only [CJ,go_sem,↓reduceIte,p1,p2,p3,p6,p9,p10,p11,p12,hk,A6 hk,c1,c2,A0,b6,b9]
   exact ⟨L,by rw [Afh c2];exact hL,M,by rw [Aaf c1];exact hM,rfl,rfl,rfl⟩
 ·rintro F h ⟨p1,p2,p3,p6,p9,L,hL,M,hM,p10,p11,rfl⟩
  simp only [CJ,go_sem,↓reduceIte,p1,p2,p3,p6,p9,p10,p11,ZE C l]
  refine Ai (by decide) 70 (by omega) (I:=fun r F h=>∃ s at_ mem k a mv x3,RoI P t l r F h s at_ mem k a mv x3) ?_ ?_ ?_ 0 _ _ (Nat.zero_le _) ?_ ?_
  ·rintro r F h hr p14 ⟨s,at_,mem,k,a,mv,x3,R⟩
   have hd:decide ((r:Int) < 70)=decide (r < 70):=decide_eq_decide.2 (by omega)
   obtain ⟨W,S,rk,ha,hmv,p3,p2,p6,p9,p10,p11,p13,rfl,hP⟩:=R
   simp only [CJ,go_sem,↓reduceIte,p2,p3,p6,p9,p10,p11,p13,p14,hd]
   refine ⟨s,at_,mem,k,a,mv,x3,W,S,rk,ha,hmv,?_,?_,?_,?_,?_,?_,?_,rfl,hP⟩<;>simp only [CJ,go_sem,↓reduceIte,p2,p3,p6,p9,p10,p11,p13]
  ·rintro r F h hr p14 ⟨s,at_,mem,k,a,mv,x3,R⟩
   obtain ⟨W,S,rk,ha,hmv,p3,p2,p6,p9,p10,p11,p13,rfl,hP⟩:=R
   have hal:at_.length≤64:=by
    have hd:(at_.map fun (i:Nat)=>(i:Int)).Nodup:=by
     rw [List.nodup_iff_pairwise_ne,List.pairwise_map]
     exact S.pw.imp fun h e=>h (by rw [show _=_ from Int.ofNat.inj e])
    have:=Kc _ s.has hd (fun y hy=>by
     obtain ⟨m,hm,rfl⟩:=List.mem_map.1 hy
     exact (S.has m hm).1)
    rw [List.length_map] at this
    have:=W.form.len
    omega
   have hcv:=hmv.cl (n:=6) (by decide)
   have hcv5:=hmv.cl (n:=5) (by decide)
   have hok:∀ j,j < at_.length→at_.getD j 0 < t.nodes.length∧0≤(t.at (at_.getD j 0)).thread:=fun j hj=>by
    have hm:=Ap (d:=0) hj
    obtain ⟨h1,h2⟩:=S.has _ hm
    obtain ⟨m,e,hm⟩:=Aa (W.gr.ok _ h1)
    exact ⟨by omega,h2⟩
   have hst:=fun (j:Nat) (hj:j < at_.length) (x0 x1 x2 x4 x5:Option VO) (Q:VV→VH→Prop)=>XS C t ht (hok j hj).1 (hok j hj).2 W.ml hmv x0 x1 x2 x4 x5 (Q:=Q)
   simp only [CJ,go_sem,↓reduceIte,p2,p3,p6,p9,p10,p11,p13,p14,A0]
   refine Ai (by decide) at_.length (by omega) (I:=fun j F h=>A4.tmp F 2 = .i .i64 70∧A4.tmp F 3 = .fp (eT t) 0∧A4.tmp F 6 = .p 0 0 0 0∧A4.tmp F 9 = .p 1 0 0 0∧A4.tmp F 10 = .sl 2 at_.length 0 at_.length∧A4.tmp F 11=mv∧A4.tmp F 13 = .p 4 0 0 0∧A4.tmp F 14 = .i .i64 r∧∃ L,L=nI (Mt t at_ mem j)∧A4.tmp F 15 = .sl 5 L.length 0 L.length∧h=[b6,b9 s,atO at_,x3,MO l a,some (AL AG 1 (L.map eI))]) ?_ ?_ ?_ 0 _ _ (Nat.zero_le _) ?_ ?_
   ·rintro j F h hj p16 ⟨p2,p3,p6,p9,p10,p11,p13,p14,L,hL,p15,rfl⟩
    simp only [CJ,go_sem,↓reduceIte,p2,p3,p6,p9,p10,p11,p13,p14,p15,p16]
    exact ⟨L,hL,rfl,rfl⟩
   ·rintro j F h hj p16 ⟨p2,p3,p6,p9,p10,p11,p13,p14,L,hL,p15,rfl⟩
    have gat:(nI at_)[j]? = some ((at_.getD j 0:Nat):Int):=by simp [nI,hj]
    have hs:=hst j hj b6 (b9 s) (atO at_) (MO l a) (some (AL AG 1 (L.map eI)))
    have hcl:=A8j t at_ mem j
    have q1:(L.length+1) * 8≤A7:=by rw [hL,BT];unfold A7;omega
    have hao:atO at_=some ⟨AG,1,at_.length,false,(nI at_).map eI⟩:=by rw [atO,Lh (by rw [List.length_map,BT];omega),List.length_map,BT]
    rw [hao] at hs ⊢
    cases e:Hb t (at_.getD j 0) mem with
    | none =>
     rw [e] at hs
     simp only [CJ,go_sem,↓reduceIte,p2,p3,p6,p9,p10,p11,p13,p14,p15,p16,gat,hs,hj,BT,MY,hcv,A0,List.length_map]
     exact ⟨L,by rw [Afn e];exact hL,rfl,rfl⟩
    | some x =>
     obtain ⟨to,out⟩:=x
     rw [e] at hs
     simp only [CJ,go_sem,↓reduceIte,p2,p3,p6,p9,p10,p11,p13,p14,p15,p16,gat,hs,hj,BT,MY,hcv,A0,q1,PM,List.length_append,List.length_map]
     exact ⟨L++[(j:Int)],by rw [Afo e,hL,Wt],by simp,rfl⟩
   ·rintro F h ⟨p2,p3,p6,p9,p10,p11,p13,p14,L,hL,p15,rfl⟩
    cases c0:decide (L.length=0) with
    | true =>
     have c0':=of_decide_eq_true c0
     have c0i:decide ((L.length:Int)=0)=true:=decide_eq_true (by omega)
     have hfin:=hq s mem k at_ W S (fun u hu=>by
      obtain ⟨j,hj,rfl⟩:=List.getElem_of_mem hu
      have hnil:Mt t at_ mem at_.length=[]:=List.length_eq_zero_iff.1 (by rwa [hL,BT] at c0')
      have hnm:j∉Mt t at_ mem at_.length:=by rw [hnil];simp
      simp only [Mt,List.mem_filter,List.mem_range,not_and,Bool.not_eq_true] at hnm
      have:=hnm hj
      rw [List.getD_eq_getElem?_getD,List.getElem?_eq_getElem hj] at this
      exact Option.isNone_iff_eq_none.1 (by rw [← Option.not_isSome,show (Hb t at_[j] mem).isSome=false from this];rfl)) hP
     rcases hmv with rfl | ⟨rfl,rfl⟩
     ·simp only [CJ,go_sem,↓reduceIte,p2,p3,p6,p9,p10,p11,p13,p14,p15,c0,c0i,b6,b9,A0]
      exact hfin
     ·simp only [CJ,go_sem,↓reduceIte,p2,p3,p6,p9,p10,p11,p13,p14,p15,c0,c0i,b6,b9,A0,List.length_map]
      exact hfin
    | false =>
    have c0':=of_decide_eq_false c0
    have c0i:decide ((L.length:Int)=0)=false:=decide_eq_false (by omega)
    simp only [CJ,go_sem,↓reduceIte,p2,p3,p6,p9,p10,p11,p13,p14,p15,c0,c0i]
    refine (Aah C l hl a ha _ _ _ _ _ _).mono ?_
    rintro _ _ ⟨p,rfl,hp,a',ha',rfl⟩
    have hpl:p < L.length:=by have:=hp (by omega);omega
    obtain ⟨q,hqe,hqm⟩:∃ q:Nat,L.getD p 0=q∧q∈Mt t at_ mem at_.length:=by
     have hpl':p < (Mt t at_ mem at_.length).length:=by rwa [hL,BT] at hpl
     exact ⟨_,by rw [hL];exact Ahc hpl',List.getElem_mem hpl'⟩
    have gL:=Az hpl
    rw [hqe] at gL
    simp only [Mt,List.mem_filter,List.mem_range] at hqm
    obtain ⟨hql,hqs⟩:=hqm
    obtain ⟨⟨to,out⟩,e⟩:=Option.isSome_iff_exists.1 hqs
    have gat:(nI at_)[q]? = some ((at_.getD q 0:Nat):Int):=by simp [nI,hql]
    obtain ⟨hto,s1,s2,k1,k2,hif,W1,w2,W2,hk,S2⟩:=Ae7 ht W S hql (u:=at_.getD q 0) (by rw [List.getD_eq_getElem?_getD,List.getElem?_eq_getElem hql];rfl) e
    have hs:=hst q hql b6 (b9 s) (atO at_) (MO l a') (some (AL AG 1 (L.map eI)))
    have hao:atO at_=some ⟨AG,1,at_.length,false,(nI at_).map eI⟩:=by rw [atO,Lh (by rw [List.length_map,BT];omega),List.length_map,BT]
    have hao2:some ⟨AG,1,at_.length,false,(nI (at_.set q to)).map eI⟩ = atO (at_.set q to):=by rw [atO,Lh (by rw [List.length_map,BT,List.length_set];omega),List.length_map,BT,List.length_set]
    rw [hao] at hs ⊢
    rw [e] at hs
    simp only [b6,b9] at hs
    have wk:=fun {s:A5} {k:Nat} (W:WI t s mem k) {n:Nat} (hn:n < t.nodes.length) {s':A5} (hw:Wlk t s n s') (Q:VV→Prop)=>Tf C t ht s (W.gr.sz ht (by have:=W.k64 ht;omega)) (W.gr.sz' (by have:=W.k64 ht;omega)) hn hw W.form.ml (fun loc hl=>W.pos hl) (fun loc hl c hc=>by obtain ⟨w,h,_⟩:=W.one loc hl c hc;exact ⟨w,h⟩) (Q:=Q)
    have hw2:=wk W1 hto w2
    have hix:=ES (ty:=AG) (e:=1) (rows:=L.map eI) (by rw [List.length_map];exact c0')
    have hokB:okB 5 (atO (at_.set q to))=true:=by
     unfold atO
     simp only [go_sem]
    have hset:(List.map eI (nI at_)).set q [.i .i64 (to:Nat)]=(nI (at_.set q to)).map eI:=by rw [Ab6,Ahd]
    have hP2:P s2:=by
     refine P1 _ _ _ W1.form ?_ w2
     split at hif
     ·obtain ⟨m,_,_,w1⟩:=hif
      exact P1 _ _ _ W.form hP w1
     ·rw [hif];exact hP
    cases cu:decide ((t.at to).up=((at_.getD q 0:Nat):Int)) with
    | true =>
     rw [if_neg (by rw [of_decide_eq_true cu];simp)] at hif
     subst hif
     simp only [CJ,go_sem,↓reduceIte,p2,p3,p6,p9,p10,p11,p13,p14,p15,gL,hpl,hix,gat,hs,hql,BT,MY,hcv,hcv5,cu,hto,A6 hto,hw2,hset,hao2,b6,b9,A0,List.length_map]
     refine ⟨.inr hokB,fun _ _=>?_⟩
     refine ⟨s2,at_.set q to,out,k2,a',lI out,x3,W2,S2,by omega,ha',.inl rfl,?_,?_,?_,?_,?_,?_,?_,rfl,hP2⟩<;>simp only [CJ,go_sem,↓reduceIte,p2,p3,p6,p9,p10,p11,p13,List.length_set]
    | false =>
     rw [if_pos (of_decide_eq_false cu)] at hif
     obtain ⟨m,hm,hml,w1⟩:=hif
     have hw1:=wk W hml w1
     rw [← hm] at hw1
     simp only [CJ,go_sem,↓reduceIte,p2,p3,p6,p9,p10,p11,p13,p14,p15,gL,hpl,hix,gat,hs,hql,BT,MY,hcv,hcv5,cu,hto,A6 hto,hw1,hw2,hset,hao2,b6,b9,A0,List.length_map]
     refine ⟨.inr hokB,fun _ _=>?_⟩
     refine ⟨s2,at_.set q to,out,k2,a',lI out,x3,W2,S2,by omega,ha',.inl rfl,?_,?_,?_,?_,?_,?_,?_,rfl,hP2⟩<;>simp only [CJ,go_sem,↓reduceIte,p2,p3,p6,p9,p10,p11,p13,List.length_set]
   ·simp only [CJ,go_sem,↓reduceIte]
   ·simp only [CJ,go_sem,↓reduceIte,p2,p3,p6,p9,p10,p11,p13,p14]
    exact ⟨[],rfl,rfl,rfl⟩
  ·rintro F h ⟨s,at_,mem,k,a,mv,x3,R⟩
   have:=R.wi.k64 ht
   have:=R.rk
   omega
  ·simp only [CJ,go_sem,↓reduceIte]
  ·subst hL hM
   rw [BT] at p10
   refine ⟨BB t,TJ t t.nodes.length,MI t t.nodes.length,0,0,_,_,Akp ht,Ako ht,Nat.zero_le _,Nat.zero_le _,.inr ⟨rfl,rfl⟩,?_,?_,?_,?_,?_,?_,?_,rfl,P0⟩<;>simp only [CJ,go_sem,↓reduceIte,p2,p3,p6,p9,p10,p11]
 ·simp only [CJ,go_sem,↓reduceIte]
 ·simp only [CJ,go_sem,↓reduceIte]
  exact ⟨[],rfl,[],rfl,rfl,rfl,rfl⟩
theorem Wj (t:A2) (ht:A8 t) (l:List U8) (hl:l.length≤1000∧∀ x∈l,x.n < 256) {Q:VV→Prop} (hq:∀ s mem k at_,WI t s mem k→StI t s at_→(∀ u∈at_,Hb t u mem=none)→Q (.tu [J6 s,.b true,lI mem])):VP V ZT [vT t,lU l,.i .i64 70] Q :=
 Wi C t ht (P:=fun _=>True) trivial (fun _ _ _ _ _ _=>trivial) l hl fun s mem k at_ W S h _=>hq s mem k at_ W S h
set_option maxHeartbeats 4000000 in
theorem Te (t:A2) (ht:A8 t) (l:List U8) (hl:l.length≤1000∧∀ x∈l,x.n < 256):VP V A4Y [vT t,lU l] fun v=>∃ s mem k at_,v = .tu [J6 s,.b true,lI mem]∧WI t s mem k∧StI t s at_∧∀ u∈at_,Hb t u mem=none:=by
 rw [Ac C.c_z17.1 C.c_z17.2]
 simp only [A8S,Zy,go_sem,↓reduceIte]
 refine Wj C t ht l hl (fun s mem k at_ W S h=>?_)
 simp only [Zy,go_sem,↓reduceIte]
 exact ⟨s,mem,rfl,k,W,at_,S,h⟩
end
section
variable {V:Am} (C:Au V) {Q:VV→Prop}
include C
set_option maxHeartbeats 4000000 in
theorem A7d (r:Rows) (hm:DJ r=true) (a b:Int):VP V A4W [lW r,.i .i64 a,.i .i64 b] Q↔Q (.b (decide (0≤a) && decide (a < r.length) && Bv (r.getD a.toNat 0#64) b)):=by
 refine Ad ?_
 rw [Ac C.c_z15.1 C.c_z15.2]
 cases c1:decide (0≤a) with
 | false=>simp only [Z6,U5,go_sem,↓reduceIte,C0 C,hm,c1,Bool.false_and]
 | true =>
 obtain ⟨n,rfl⟩:=Int.eq_ofNat_of_zero_le (of_decide_eq_true c1)
 cases c2:decide (n < r.length) with
 | false=>simp only [Z6,U5,go_sem,↓reduceIte,C0 C,hm,c1,c2,Int.ofNat_lt,Bool.false_and,Bool.true_and]
 | true =>
  have hn:n < r.length:=of_decide_eq_true c2
  simp only [Z6,U5,go_sem,↓reduceIte,C0 C,hm,c1,Int.ofNat_lt,c2,hn,Bz hn,AD C,Bool.true_and,Int.toNat_natCast]
set_option maxHeartbeats 4000000 in
theorem SK (r:Rows) (hl:r.length≤64):VP V A5d [lW r,lW r] Q↔Q (.b true):=by
 refine Ad ?_
 rw [Ac C.c_z47.1 C.c_z47.2]
 simp only [A9d,NC,go_sem,↓reduceIte]
 refine Ae (by decide) r.length (by omega) (I:=fun k F h=>h=[]∧A4.tmp F 0=lW r∧A4.tmp F 1=lW r) ?_ ?_ 0 _ _ (by omega) ?_ ?_ ?_
 ·rintro k F h hk p13 p12 ⟨rfl,p0,p1⟩
  simp only [NC,go_sem,↓reduceIte,p13,p12,p0,p1,hk,Bz hk,A0]
 ·rintro F h ⟨rfl,p0,p1⟩
  simp only [NC,go_sem,↓reduceIte,p0,p1]
 ·simp only [NC,go_sem,↓reduceIte]
 ·simp only [NC,go_sem,↓reduceIte]
 ·simp only [NC,go_sem,↓reduceIte]
theorem Sz (r:Rows) (hl:r.length≤64):VP V A4U [lW r,lW r] Q↔Q (.b true):=by
 refine Ad ?_
 rw [Ac C.c_z11.1 C.c_z11.2]
 have h:=fun (Q:VV→Prop)=>SK C r hl (Q:=Q)
 simp only [A8J,A4w,go_sem,↓reduceIte,h]
set_option maxHeartbeats 4000000 in
theorem A0i {n:Nat} (hn:n≤64):VP V A4Z [lW (Ar n fun _ _=>false)] Q↔Q (.i .i64 0):=by
 refine Ad ?_
 rw [Ac C.c_z18.1 C.c_z18.2]
 have hm:=D5 hn fun _ _=>false
 have hlen:=Al (n:=n) (p:=fun _ _=>false)
 have hz:(C1 0#64).length=0:=by
  have:C1 0#64=[]:=by
   unfold C1
   rw [List.filter_eq_nil_iff]
   intro j _
   simp
  rw [this];rfl
 simp only [A8T,NA,go_sem,↓reduceIte,C0 C,hm,hlen]
 refine Ae (by decide) n (by omega) (I:=fun k F h=>A4.tmp F 3 = .i .i64 0∧A4.tmp F 9=lW (Ar n fun _ _=>false)∧h=[]) ?_ ?_ 0 _ _ (by omega) ?_ ?_ ?_
 ·rintro k F h hk p11 p10 ⟨p3,p9,rfl⟩
  have g:=Bi (n:=n) (p:=fun _ _=>false) hk
  rw [show (BS fun b=>decide (b < n) && false)=0#64 from Bp fun j _=>by rw [At];simp] at g
  simp only [NA,go_sem,↓reduceIte,p11,p10,p3,p9,g,hk,Jz C,hz,A0]
  exact AC (by decide) (by decide)
 ·rintro F h ⟨p3,p9,rfl⟩
  simp only [NA,go_sem,↓reduceIte,p3,p9]
 ·simp only [NA,go_sem,↓reduceIte]
 ·simp only [NA,go_sem,↓reduceIte]
 ·simp only [NA,go_sem,↓reduceIte]
end
abbrev tsH (t:A2) (s:A5):VH:=[some ⟨Mo,0,0,false,[eT t]⟩,some ⟨Ab,0,0,false,[TU s]⟩]
theorem GO {t:A2} {s:A5} (hf:AZ t s) {i:Nat} (hi:i < s.has.length):∃ m:Nat,s.has.getD i 0=m∧m < t.nodes.length∧(m:Int)∈s.has:=by
 have hm:=Ap (d:=0) hi
 obtain ⟨m,e,hml⟩:=Aa (hf.node _ hm)
 rw [e] at hm
 exact ⟨m,e,hml,hm⟩
section
variable {V:Am} (C:Au V)
include C
set_option maxRecDepth 8000 in
set_option maxHeartbeats 16000000 in
theorem law_SeenCalm (hb:∀ Q:VV→Prop,VP V Ti [] Q↔Q (.b true)) (l m:List U8) (hl:∀ x∈l,x.n < 256) (hm:∀ x∈m,x.n < 256) :
  VP V AdE [lU l,lU m] fun x=>x = .b true:=by
 rw [Ac C.c_z2.1 C.c_z2.2]
 by_cases c1:(30:Int) < l.length
 ·simp only [A6F,Qs,go_sem,↓reduceIte,hb,c1]
 by_cases c2:(40:Int) < m.length
 ·simp only [A6F,Qs,go_sem,↓reduceIte,hb,c1,c2]
 obtain ⟨_,⟨t,ok,rfl,ht⟩,qT⟩:=Db (JQ C l ⟨by omega,hl⟩)
 cases ok with
 | false=>simp only [A6F,Qs,go_sem,↓reduceIte,hb,c1,c2,qT]
 | true =>
 have ht:=(ht rfl).1
 obtain ⟨_,⟨s,mem,k,at_,rfl,W,S,_⟩,qW⟩:=Db (Te C t ht m ⟨by omega,hm⟩)
 have hf:=W.form
 have hs:=W.gr.sz ht (by have:=W.k64 ht;omega)
 have ok:=Pj hf ht
 have hc:=A7x ht hf S
 have g1:=hs.has
 have qSn:=fun (e:Int) (Q:VV→Prop)=>Gy C t ht s hs hf e (Q:=Q)
 have qVs:=fun (e:Int) (Q:VV→Prop)=>H8 C t ht s hs hf ok e (Q:=Q)
 have qEc:=fun (Q:VV→Prop)=>JZ C t ht s hs hf (Q:=Q)
 rw [A8h ht hf hc] at qEc
 have qSe:=fun (Q:VV→Prop)=>A0q C t ht s hs hf ok (Q:=Q)
 rw [A6s ht hf hc] at qSe
 have qWd:=fun (Q:VV→Prop)=>Q9 C s hs (Q:=Q)
 have qCt:=fun (Q:VV→Prop)=>A0i C ht.n64 (Q:=Q)
 simp only [A6F,Qs,go_sem,↓reduceIte,hb,c1,c2,qT,qW]
 refine Ai (by decide) s.has.length (by omega) (I:=fun i F h=>A4.tmp F 5 = .p 0 0 0 0∧A4.tmp F 7 = .p 1 0 0 0∧h=tsH t s) ?_ ?_ ?_ 0 _ _ (Nat.zero_le _) ?_ ?_
 ·rintro i F h hi p10 ⟨p5,p7,rfl⟩
  simp only [Qs,go_sem,↓reduceIte,p10,p5,p7]
 ·rintro i F h hi p10 ⟨p5,p7,rfl⟩
  obtain ⟨x,hx,hxl,hxm⟩:=GO hf hi
  have gX:=Az hi
  rw [hx] at gX
  have e1:=A8i ht hf hc hxm
  have e2:=YP ht hf hc hxm
  have e3:B2 s.has (x:Int)=true:=A9.2 hxm
  simp only [Qs,go_sem,↓reduceIte,p10,p5,p7,gX,hi,qSn,qVs,e1,e2,e3,Int.toNat_natCast,A0]
 ·rintro F h ⟨p5,p7,rfl⟩
  simp only [Qs,go_sem,↓reduceIte,p5,p7,qEc,qSe,qWd,qCt]
 ·simp only [Qs,go_sem,↓reduceIte]
 ·simp only [Qs,go_sem,↓reduceIte]
set_option maxRecDepth 8000 in
set_option maxHeartbeats 16000000 in
theorem law_SeenConflict (hb:∀ Q:VV→Prop,VP V Ti [] Q↔Q (.b true)) (l m:List U8) (hl:∀ x∈l,x.n < 256) (hm:∀ x∈m,x.n < 256) :
  VP V AdD [lU l,lU m] fun x=>x = .b true:=by
 rw [Ac C.c_z1.1 C.c_z1.2]
 by_cases c1:(30:Int) < l.length
 ·simp only [A6E,HP,go_sem,↓reduceIte,hb,c1]
 by_cases c2:(40:Int) < m.length
 ·simp only [A6E,HP,go_sem,↓reduceIte,hb,c1,c2]
 obtain ⟨_,⟨t,ok,rfl,ht⟩,qT⟩:=Db (JQ C l ⟨by omega,hl⟩)
 cases ok with
 | false=>simp only [A6E,HP,go_sem,↓reduceIte,hb,c1,c2,qT]
 | true =>
 have ht:=(ht rfl).1
 have h64:=ht.n64
 have hg:=Nr ht m (m.length / 2)
 have hf:=GI ht m (m.length / 2)
 have qG:=fun (Q:VV→Prop)=>JM C t ht m (by omega) hm (Q:=Q)
 obtain ⟨s,hs⟩:∃ s,s=Cz t m (m.length / 2):=⟨_,rfl⟩
 rw [← hs] at hg qG hf
 have hz:=hg.sz ht (by omega)
 have g1:=hz.has
 have qSn:=fun (e:Int) (Q:VV→Prop)=>Gy C t ht s hz hf e (Q:=Q)
 have qEc:=fun (Q:VV→Prop)=>JZ C t ht s hz hf (Q:=Q)
 have hel:(Eo t s).length=t.nodes.length:=Al
 have qBk:=fun (Q:VV→Prop)=>Sv C h64 (fun a b=>B2 s.has (a:Int) && B2 s.has (b:Int) && DB t s a b) (Q:=Q)
 rw [A8x ht] at qBk
 have qSm:=fun (Q:VV→Prop)=>Sz C (Eo t s) (by omega) (Q:=Q)
 have hme:DJ (Eo t s)=true:=D5 h64 _
 have qHs:=fun (a b:Nat) (ha:(a:Int)∈s.has) (hb:(b:Int)∈s.has) (hal:a < t.nodes.length) (hbl:b < t.nodes.length) (Q:VV→Prop)=>(A7d C (Eo t s) hme a b (Q:=Q)).trans (show _↔Q (.b (DB t s a b)) by
  rw [Eo,Al,Int.toNat_natCast,Jm h64 hal hbl,A9.2 ha,A9.2 hb,decide_eq_true (show (0:Int)≤(a:Int) by omega),decide_eq_true (show (a:Int) < (t.nodes.length:Int) by omega)]
  simp)
 have qAg:=fun (a b:Int) (Q:VV→Prop)=>Kd C t ht.up a b (Q:=Q)
 have hme2:Eo t s=Ar t.nodes.length fun a b=>B2 s.has (a:Int) && B2 s.has (b:Int) && DB t s a b:=rfl
 rw [← hme2] at qBk
 simp only [A6E,HP,go_sem,↓reduceIte,hb,c1,c2,qT,qG,qEc,qBk,qSm]
 refine Ai (by decide) s.has.length (by omega) (I:=fun i F h=>A4.tmp F 5 = .p 0 0 0 0∧A4.tmp F 7 = .p 1 0 0 0∧A4.tmp F 8=lW (Eo t s)∧h=tsH t s) ?_ ?_ ?_ 0 _ _ (Nat.zero_le _) ?_ ?_
 ·rintro i F h hi p9 ⟨p5,p7,p8,rfl⟩
  simp only [HP,go_sem,↓reduceIte,p9,p5,p7,p8]
 ·rintro i F h hi p9 ⟨p5,p7,p8,rfl⟩
  obtain ⟨x,hx,hxl,hxm⟩:=GO hf hi
  have gX:=Az hi
  rw [hx] at gX
  have e3:B2 s.has (x:Int)=true:=A9.2 hxm
  have qxx:=fun (Q:VV→Prop)=>qHs x x hxm hxm hxl hxl Q
  have e4:Y6 t s x = !DB t s x x:=rfl
  have e5:((!DB t s x x) == DB t s x x)=false:=by cases DB t s x x<;>rfl
  simp only [HP,go_sem,↓reduceIte,p9,p5,p7,p8,gX,hi,qSn,qxx,e3,e4,e5,Int.toNat_natCast,Bool.true_and,A0]
  refine Ai (by decide) s.has.length (by omega) (I:=fun k F h=>A4.tmp F 9 = .i .i64 i∧A4.tmp F 10 = .i .i64 x∧A4.tmp F 5 = .p 0 0 0 0∧A4.tmp F 7 = .p 1 0 0 0∧A4.tmp F 8=lW (Eo t s)∧h=tsH t s) ?_ ?_ ?_ 0 _ _ (Nat.zero_le _) ?_ ?_
  ·rintro k F h hk q11 ⟨q9,q10,q5,q7,q8,rfl⟩
   simp only [HP,go_sem,↓reduceIte,q11,q9,q10,q5,q7,q8]
  ·rintro k F h hk q11 ⟨q9,q10,q5,q7,q8,rfl⟩
   obtain ⟨y,hy,hyl,hym⟩:=GO hf hk
   have gY:=Az hk
   rw [hy] at gY
   have qxy:=fun (Q:VV→Prop)=>qHs x y hxm hym hxl hyl Q
   have gN:=A6 hyl
   have hag:AN t x y=true→DB t s x y=true:=YV ht hxl hyl
   by_cases cu:(t.at y).up < 0
   ·have d1:decide (0≤(t.at y).up)=false:=decide_eq_false (by omega)
    cases a1:AN t x y with
    | true =>
     have e:=hag a1
     rw [e] at qxy
     simp only [HP,go_sem,↓reduceIte,q11,q9,q10,q5,q7,q8,gY,hk,qAg,a1,qxy,hyl,gN,d1,A0]
    | false =>
     simp only [HP,go_sem,↓reduceIte,q11,q9,q10,q5,q7,q8,gY,hk,qAg,a1,hyl,gN,d1,A0]
   ·obtain ⟨u,hu⟩:=Int.eq_ofNat_of_zero_le (show 0≤(t.at y).up by omega)
    have hlt:=ht.up y hyl
    have hum:(u:Int)∈s.has:=by
     rcases hf.up _ hym with c | c
     ·rw [Int.toNat_natCast] at c;omega
     ·rw [Int.toNat_natCast,hu] at c;exact c
    have qxu:=fun (Q:VV→Prop)=>qHs x u hxm hum hxl (by omega) Q
    have d1:decide (0≤(u:Int))=true:=decide_eq_true (by omega)
    have hup:DB t s x u=true→DB t s x y=true:=Afw ht hxl hyl hu hum hym
    cases a1:AN t x y with
    | true =>
     have e:=hag a1
     rw [e] at qxy
     cases a2:DB t s x u<;>rw [a2] at qxu<;>simp only [HP,go_sem,↓reduceIte,q11,q9,q10,q5,q7,q8,gY,hk,qAg,a1,qxy,qxu,hyl,gN,hu,d1,A0]
    | false =>
     cases a2:DB t s x u with
     | true =>
      have e:=hup a2
      rw [a2] at qxu
      rw [e] at qxy
      simp only [HP,go_sem,↓reduceIte,q11,q9,q10,q5,q7,q8,gY,hk,qAg,a1,qxy,qxu,hyl,gN,hu,d1,A0]
     | false =>
      rw [a2] at qxu
      simp only [HP,go_sem,↓reduceIte,q11,q9,q10,q5,q7,q8,gY,hk,qAg,a1,qxu,hyl,gN,hu,d1,A0]
  ·rintro F h ⟨q9,q10,q5,q7,q8,rfl⟩
   simp only [HP,go_sem,↓reduceIte,q9,q10,q5,q7,q8]
  ·simp only [HP,go_sem,↓reduceIte]
  ·simp only [HP,go_sem,↓reduceIte,p9,p5,p7,p8]
 ·rintro F h ⟨p5,p7,p8,rfl⟩
  simp only [HP,go_sem,↓reduceIte,p5,p7,p8]
 ·simp only [HP,go_sem,↓reduceIte]
 ·simp only [HP,go_sem,↓reduceIte]
end
theorem Zl {t:A2} {m m':List U8}:∀ k,(∀ i,i < 2 * k→Pc m i=Pc m' i)→Cz t m k=Cz t m' k
 | 0,_=>rfl
 | k+1,h=>by rw [Cz,Cz,Zl k (fun i hi=>h i (by omega)),h (2 * k) (by omega),h (2 * k+1) (by omega)]
theorem Aca {m k:List U8} {i:Nat} (h:i < m.length):Pc (m++k) i=Pc m i:=by
 unfold Pc
 rw [List.getD_eq_getElem?_getD,List.getD_eq_getElem?_getD,List.getElem?_append_left h]
theorem Adq {t:A2} (ht:A8 t) {m k:List U8} (he:m.length % 2=0):Lst t (Cz t m (m.length / 2)) (Cz t (m++k) ((m++k).length / 2)):=by
 rw [Zl (t:=t) (m:=m) (m':=m++k) (m.length / 2) (fun i hi=>(Aca (by omega)).symm)]
 have e:(m++k).length / 2=m.length / 2+k.length / 2:=by rw [List.length_append];omega
 rw [e]
 exact Zk ht (m++k) (m.length / 2) (k.length / 2)
def T6 (m:List U8):List U8:=m.take (m.length / 2 * 2)
theorem Acp (m:List U8):(T6 m).length=m.length / 2 * 2:=by rw [T6,List.length_take];omega
theorem A41 {m:List U8} {x:U8} (h:x∈T6 m):x∈m:=List.mem_of_mem_take h
theorem QQ (m:List U8) (n:Nat):(m.map eU).take n=(m.take n).map eU:=by rw [List.map_take]
abbrev lsH (t:A2) (a b:A5):VH:=[some ⟨Mo,0,0,false,[eT t]⟩,some ⟨Ab,0,0,false,[TU a]⟩,none,some ⟨Ab,0,0,false,[TU b]⟩]
section
variable {V:Am} (C:Au V)
include C
set_option maxRecDepth 8000 in
set_option maxHeartbeats 16000000 in
theorem law_SeenLasts (hb:∀ Q:VV→Prop,VP V Ti [] Q↔Q (.b true)) (l m k:List U8) (hl:∀ x∈l,x.n < 256) (hm:∀ x∈m,x.n < 256) (hk:∀ x∈k,x.n < 256) :
  VP V AdC [lU l,lU m,lU k] fun x=>x = .b true:=by
 rw [Ac C.c_z0.1 C.c_z0.2]
 by_cases c1:(30:Int) < l.length
 ·simp only [T7,Dn,go_sem,↓reduceIte,hb,c1]
 by_cases c2:(30:Int) < m.length
 ·simp only [T7,Dn,go_sem,↓reduceIte,hb,c1,c2]
 by_cases c3:(30:Int) < k.length
 ·simp only [T7,Dn,go_sem,↓reduceIte,hb,c1,c2,c3]
 obtain ⟨_,⟨t,ok,rfl,ht⟩,qT⟩:=Db (JQ C l ⟨by omega,hl⟩)
 cases ok with
 | false=>simp only [T7,Dn,go_sem,↓reduceIte,hb,c1,c2,c3,qT]
 | true =>
 have ht:=(ht rfl).1
 have h64:=ht.n64
 have q1:B5 .quo none (.i .i64 (m.length:Int)) (.i .i64 2)=some (.i .i64 ((m.length / 2:Nat):Int)):=A0F (l:=2) (by omega) (by omega)
 have w1:IntKind.i64.wrap (((m.length / 2:Nat):Int) * 2)=((m.length / 2 * 2:Nat):Int):=by rw [AC (by omega) (by omega)];omega
 have hle:m.length / 2 * 2≤m.length:=by omega
 have l1:=Acp m
 have qG1:=fun (Q:VV→Prop)=>JM C t ht (T6 m) (by omega) (fun x hx=>hm x (A41 hx)) (Q:=Q)
 have qG2:=fun (Q:VV→Prop)=>JM C t ht (T6 m++k) (by rw [List.length_append];omega) (fun x hx=>by rcases List.mem_append.1 hx with h | h;exact hm x (A41 h);exact hk x h) (Q:=Q)
 have X:=Adq ht (m:=T6 m) (k:=k) (by omega)
 have hfa:=GI ht (T6 m) ((T6 m).length / 2)
 have hfb:=GI ht (T6 m++k) ((T6 m++k).length / 2)
 have hza:=(Nr ht (T6 m) ((T6 m).length / 2)).sz ht (by omega)
 have hzb:=(Nr ht (T6 m++k) ((T6 m++k).length / 2)).sz ht (by rw [List.length_append];omega)
 obtain ⟨a,ha⟩:∃ a,a=Cz t (T6 m) ((T6 m).length / 2):=⟨_,rfl⟩
 obtain ⟨b,hbb⟩:∃ b,b=Cz t (T6 m++k) ((T6 m++k).length / 2):=⟨_,rfl⟩
 rw [← ha] at qG1 X hfa hza
 rw [← hbb] at qG2 X hfb hzb
 have hev:List.take (m.length / 2 * 2) m=T6 m:=rfl
 have l3:((T6 m).length+k.length) * 1≤A7:=by unfold A7;omega
 have oka:=Pj hfa ht
 have okb:=Pj hfb ht
 have g1:=hza.has
 have qSa:=fun (e:Int) (Q:VV→Prop)=>Gy C t ht a hza hfa e (Q:=Q)
 have qVa:=fun (e:Int) (Q:VV→Prop)=>H8 C t ht a hza hfa oka e (Q:=Q)
 have qEa:=fun (Q:VV→Prop)=>JZ C t ht a hza hfa (Q:=Q)
 have qSb:=fun (e:Int) (Q:VV→Prop)=>Gy C t ht b hzb hfb e (Q:=Q)
 have qVb:=fun (e:Int) (Q:VV→Prop)=>H8 C t ht b hzb hfb okb e (Q:=Q)
 have qEb:=fun (Q:VV→Prop)=>JZ C t ht b hzb hfb (Q:=Q)
 have qWd:=fun (Q:VV→Prop)=>Q9 C a hza (Q:=Q)
 have qKp:=fun (Q:VV→Prop)=>Sx C (Eo t b) (Cj a.has) (Q:=Q)
 rw [A8y ht hfa X] at qKp
 have qSm:=fun (Q:VV→Prop)=>Sz C (Eo t a) (by rw [Eo,Al];exact h64) (Q:=Q)
 have two:∀ n:Nat,n≤100→n≤A7:=fun n h=>by unfold A7;omega
 cases hem:T6 m with
 | nil =>
  rw [hem] at qG1 qG2 hev l1 l3
  try rw [List.length_cons] at l1
  cases k with
  | nil =>
   have hab:a=b:=by rw [ha,hbb,hem];simp
   subst hab
   try simp only [lU,List.map_nil,List.map_cons,List.map_append,List.nil_append,List.append_nil,List.cons_append] at qG1 qG2
   simp only [T7,Dn,go_sem,↓reduceIte,hb,c1,c2,List.length_cons,c3,qT,q1,w1,hle,QQ,hev,qG1,qG2,qEa,qEb,List.nil_append,List.append_nil,List.map_nil,List.map_cons,List.cons_append]
   refine Ai (by decide) a.has.length (by omega) (I:=fun i F h=>A4.tmp F 7 = .p 0 0 0 0∧A4.tmp F 9 = .p 1 0 0 0∧A4.tmp F 10 = .p 3 0 0 0∧A4.tmp F 11=lW (Eo t a)∧A4.tmp F 12=lW (Eo t a)∧h=lsH t a a) ?_ ?_ ?_ 0 _ _ (Nat.zero_le _) ?_ ?_
   ·rintro i F h hi p13 ⟨p7,p9,p10,p11,p12,rfl⟩
    simp only [Dn,go_sem,↓reduceIte,p13,p7,p9,p10,p11,p12]
   ·rintro i F h hi p13 ⟨p7,p9,p10,p11,p12,rfl⟩
    obtain ⟨x,hx,hxl,hxm⟩:=GO hfa hi
    have gX:=Az hi
    rw [hx] at gX
    have e3:B2 a.has (x:Int)=true:=A9.2 hxm
    have e4:B2 a.has (x:Int)=true:=A9.2 (X.has _ hxm)
    have e5:=QF ht hfa X hxm
    cases v:N0 t a x with
    | true =>
     have v2:=X.vis x hxm v
     simp only [Dn,go_sem,↓reduceIte,p13,p7,p9,p10,p11,p12,gX,hi,qSa,qVa,qSb,qVb,e3,e4,e5,v,v2,Int.toNat_natCast,Bool.true_and,beq_self_eq_true,Bool.not_true,A0]
    | false =>
     simp only [Dn,go_sem,↓reduceIte,p13,p7,p9,p10,p11,p12,gX,hi,qSa,qVa,qSb,qVb,e3,e4,e5,v,Int.toNat_natCast,Bool.true_and,beq_self_eq_true,Bool.not_true,A0]
   ·rintro F h ⟨p7,p9,p10,p11,p12,rfl⟩
    simp only [Dn,go_sem,↓reduceIte,p7,p9,p10,p11,p12,qWd,qKp,qSm]
   ·simp only [Dn,go_sem,↓reduceIte]
   ·simp only [Dn,go_sem,↓reduceIte]
  | cons y ys =>
   rw [List.length_cons] at c3
   have k1:=two (ys.length+1) (by omega)
   try have k2:=two (xs.length+1+(ys.length+1)) (by omega)
   try simp only [lU,List.map_nil,List.map_cons,List.map_append,List.nil_append,List.append_nil,List.cons_append] at qG1 qG2
   simp only [T7,Dn,go_sem,↓reduceIte,hb,c1,c2,List.length_cons,c3,qT,q1,w1,hle,k1,QQ,hev,qG1,qG2,qEa,qEb,List.nil_append,List.append_nil,List.map_nil,List.map_cons,List.cons_append]
   refine Ai (by decide) a.has.length (by omega) (I:=fun i F h=>A4.tmp F 7 = .p 0 0 0 0∧A4.tmp F 9 = .p 1 0 0 0∧A4.tmp F 10 = .p 3 0 0 0∧A4.tmp F 11=lW (Eo t a)∧A4.tmp F 12=lW (Eo t b)∧h=lsH t a b) ?_ ?_ ?_ 0 _ _ (Nat.zero_le _) ?_ ?_
   ·rintro i F h hi p13 ⟨p7,p9,p10,p11,p12,rfl⟩
    simp only [Dn,go_sem,↓reduceIte,p13,p7,p9,p10,p11,p12]
   ·rintro i F h hi p13 ⟨p7,p9,p10,p11,p12,rfl⟩
    obtain ⟨x,hx,hxl,hxm⟩:=GO hfa hi
    have gX:=Az hi
    rw [hx] at gX
    have e3:B2 a.has (x:Int)=true:=A9.2 hxm
    have e4:B2 b.has (x:Int)=true:=A9.2 (X.has _ hxm)
    have e5:=QF ht hfa X hxm
    cases v:N0 t a x with
    | true =>
     have v2:=X.vis x hxm v
     simp only [Dn,go_sem,↓reduceIte,p13,p7,p9,p10,p11,p12,gX,hi,qSa,qVa,qSb,qVb,e3,e4,e5,v,v2,Int.toNat_natCast,Bool.true_and,beq_self_eq_true,Bool.not_true,A0]
    | false =>
     simp only [Dn,go_sem,↓reduceIte,p13,p7,p9,p10,p11,p12,gX,hi,qSa,qVa,qSb,qVb,e3,e4,e5,v,Int.toNat_natCast,Bool.true_and,beq_self_eq_true,Bool.not_true,A0]
   ·rintro F h ⟨p7,p9,p10,p11,p12,rfl⟩
    simp only [Dn,go_sem,↓reduceIte,p7,p9,p10,p11,p12,qWd,qKp,qSm]
   ·simp only [Dn,go_sem,↓reduceIte]
   ·simp only [Dn,go_sem,↓reduceIte]
 | cons x xs =>
  rw [hem] at qG1 qG2 hev l1 l3
  rw [List.length_cons] at l1
  have x1:=two (xs.length+1) (by omega)
  cases k with
  | nil =>
   have hab:a=b:=by rw [ha,hbb,hem];simp
   subst hab
   try simp only [lU,List.map_nil,List.map_cons,List.map_append,List.nil_append,List.append_nil,List.cons_append] at qG1 qG2
   simp only [T7,Dn,go_sem,↓reduceIte,hb,c1,c2,List.length_cons,c3,qT,q1,w1,hle,x1,QQ,hev,qG1,qG2,qEa,qEb,List.nil_append,List.append_nil,List.map_nil,List.map_cons,List.cons_append]
   refine Ai (by decide) a.has.length (by omega) (I:=fun i F h=>A4.tmp F 7 = .p 0 0 0 0∧A4.tmp F 9 = .p 1 0 0 0∧A4.tmp F 10 = .p 3 0 0 0∧A4.tmp F 11=lW (Eo t a)∧A4.tmp F 12=lW (Eo t a)∧h=lsH t a a) ?_ ?_ ?_ 0 _ _ (Nat.zero_le _) ?_ ?_
   ·rintro i F h hi p13 ⟨p7,p9,p10,p11,p12,rfl⟩
    simp only [Dn,go_sem,↓reduceIte,p13,p7,p9,p10,p11,p12]
   ·rintro i F h hi p13 ⟨p7,p9,p10,p11,p12,rfl⟩
    obtain ⟨x,hx,hxl,hxm⟩:=GO hfa hi
    have gX:=Az hi
    rw [hx] at gX
    have e3:B2 a.has (x:Int)=true:=A9.2 hxm
    have e4:B2 a.has (x:Int)=true:=A9.2 (X.has _ hxm)
    have e5:=QF ht hfa X hxm
    cases v:N0 t a x with
    | true =>
     have v2:=X.vis x hxm v
     simp only [Dn,go_sem,↓reduceIte,p13,p7,p9,p10,p11,p12,gX,hi,qSa,qVa,qSb,qVb,e3,e4,e5,v,v2,Int.toNat_natCast,Bool.true_and,beq_self_eq_true,Bool.not_true,A0]
    | false =>
     simp only [Dn,go_sem,↓reduceIte,p13,p7,p9,p10,p11,p12,gX,hi,qSa,qVa,qSb,qVb,e3,e4,e5,v,Int.toNat_natCast,Bool.true_and,beq_self_eq_true,Bool.not_true,A0]
   ·rintro F h ⟨p7,p9,p10,p11,p12,rfl⟩
    simp only [Dn,go_sem,↓reduceIte,p7,p9,p10,p11,p12,qWd,qKp,qSm]
   ·simp only [Dn,go_sem,↓reduceIte]
   ·simp only [Dn,go_sem,↓reduceIte]
  | cons y ys =>
   rw [List.length_cons] at c3
   have k1:=two (ys.length+1) (by omega)
   try have k2:=two (xs.length+1+(ys.length+1)) (by omega)
   obtain ⟨z,hz⟩:∃ z,z=(x::xs)++(y::ys):=⟨_,rfl⟩
   rw [← hz] at qG2
   have k4:xs.length+1+(ys.length+1)≤xs.length+(ys.length+1)+1:=by omega
   have htk:List.take (xs.length+1+(ys.length+1)) (eU x::(List.map eU xs++eU y::List.map eU ys))=z.map eU:=by
    rw [hz,List.take_of_length_le (by simp;omega)];simp
   simp only [lU,List.map_cons] at qG1
   simp only [T7,Dn,go_sem,↓reduceIte,hb,c1,c2,List.length_cons,c3,qT,q1,w1,hle,x1,k1,k2,k4,htk,QQ,hev,qG1,qG2,qEa,qEb,List.nil_append,List.append_nil,List.map_nil,List.map_cons,List.cons_append]
   refine Ai (by decide) a.has.length (by omega) (I:=fun i F h=>A4.tmp F 7 = .p 0 0 0 0∧A4.tmp F 9 = .p 1 0 0 0∧A4.tmp F 10 = .p 3 0 0 0∧A4.tmp F 11=lW (Eo t a)∧A4.tmp F 12=lW (Eo t b)∧h=lsH t a b) ?_ ?_ ?_ 0 _ _ (Nat.zero_le _) ?_ ?_
   ·rintro i F h hi p13 ⟨p7,p9,p10,p11,p12,rfl⟩
    simp only [Dn,go_sem,↓reduceIte,p13,p7,p9,p10,p11,p12]
   ·rintro i F h hi p13 ⟨p7,p9,p10,p11,p12,rfl⟩
    obtain ⟨x,hx,hxl,hxm⟩:=GO hfa hi
    have gX:=Az hi
    rw [hx] at gX
    have e3:B2 a.has (x:Int)=true:=A9.2 hxm
    have e4:B2 b.has (x:Int)=true:=A9.2 (X.has _ hxm)
    have e5:=QF ht hfa X hxm
    cases v:N0 t a x with
    | true =>
     have v2:=X.vis x hxm v
     simp only [Dn,go_sem,↓reduceIte,p13,p7,p9,p10,p11,p12,gX,hi,qSa,qVa,qSb,qVb,e3,e4,e5,v,v2,Int.toNat_natCast,Bool.true_and,beq_self_eq_true,Bool.not_true,A0]
    | false =>
     simp only [Dn,go_sem,↓reduceIte,p13,p7,p9,p10,p11,p12,gX,hi,qSa,qVa,qSb,qVb,e3,e4,e5,v,Int.toNat_natCast,Bool.true_and,beq_self_eq_true,Bool.not_true,A0]
   ·rintro F h ⟨p7,p9,p10,p11,p12,rfl⟩
    simp only [Dn,go_sem,↓reduceIte,p7,p9,p10,p11,p12,qWd,qKp,qSm]
   ·simp only [Dn,go_sem,↓reduceIte]
   ·simp only [Dn,go_sem,↓reduceIte]
end
end Go.AM
