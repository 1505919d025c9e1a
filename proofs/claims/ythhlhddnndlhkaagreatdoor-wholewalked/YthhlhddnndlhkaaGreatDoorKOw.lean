/-
  Own work, part of the proof of these laws: what functions compute.
-/
import Derived.Test.YthhlhddnndlhkaaGreatDoorKKw
import Derived.Test.YthhlhddnndlhkaaGreatDoorLDw
set_option maxRecDepth 10000
set_option maxHeartbeats 64000000
set_option linter.unusedVariables false
set_option linter.unusedSimpArgs false
set_option linter.unusedSectionVars false
set_option linter.unnecessarySimpa false
open Int (toNat_natCast eq_ofNat_of_zero_le)
open List (length_map length_append getElem_mem length_set filter_append range_succ mem_filter length_filter_le mem_range)
open Nat (zero_le le_trans)
namespace Go.AM
open Go Go.Proofs
def nI (l:List Nat):List Int:=l.map fun (n:Nat)=>(n:Int)
theorem C2 (l:List Nat):(nI l).length=l.length:=by simp [nI]
theorem YL (l:List Nat) (x:Nat):nI l++[(x:Int)]=nI (l++[x]):=by simp [nI]
theorem Ap8 (l:List Nat) (j x:Nat):(nI l).set j (x:Int)=nI (l.set j x):=by simp [nI]
theorem Ap7 {l:List Nat} {j:Nat} (h:j < l.length):(nI l).getD j 0=(l[j]:Nat):=by simp [nI,h]
def A1c (t:A1) (u:Nat) (k:Nat):List Nat:=(List.range k).filter fun i=>decide ((t.at i).up=u)
theorem AnY {t:A1} {u k:Nat} (h:decide ((t.at k).up=(u:Int))=true):A1c t u (k+1)=A1c t u k++[k]:=by
 rw [A1c,range_succ,filter_append];simp [h,A1c,of_decide_eq_true h]
theorem AnX {t:A1} {u k:Nat} (h:decide ((t.at k).up=(u:Int))=false):A1c t u (k+1)=A1c t u k:=by
 rw [A1c,range_succ,filter_append];simp [h,A1c,of_decide_eq_false h]
theorem Ahv (t:A1) (u k:Nat):(A1c t u k).length<=k:=by
 refine le_trans (length_filter_le _ _) ?_;simp
theorem Aiy {h:VH} {ty e b:Nat} {x y y':VV} (k:LW h e y=LW h e y'):Kr h ty e b x y=Kr h ty e b x y':=by unfold Kr;rw [k]
theorem AiJ {h:VH} {ty e j:Nat} {ys:List (List VV)} (k:h[j]? = some (some (AW ty e ys))) (ho:DX e ys=true):LW h e (.sl j ys.length 0 ys.length)=LW h e (.ls ys):=by
 simp only [LW,Cp,k,G9,Nat.beq_refl,cond_true,A37,Nat.zero_add,Nat.ble_eq,Nat.le_refl,List.drop_zero,List.take_length,ho]
 have:=@Agn ty e ys
 cases hb:(Nat.beq (AW ty e ys).esz e || (AW ty e ys).nl) with
 | true =>
  have:Nat.ble ys.length ys.length=true:=by simp
  simp [this]
 | false =>
  exfalso
  simp only [Bool.or_eq_false_iff] at hb
  simp only [Bool.or_eq_true,decide_eq_true_eq] at this
  rcases this with h | h
  .rw [h,Nat.beq_refl] at hb;cases hb.1
  .rw [h] at hb;cases hb.2
section
variable {V:At} (C:Aq V) {Q:VV->Prop}
include C
theorem Ri (t:A1) (ht:A5 t) (u:Nat) (hu:u < t.nodes.length) (hth:0<=(t.at u).thread):VP V W5 [vT t,.i .i64 u] Q↔Q (lI (nI (HG t u))):=by
 refine Ae ?_
 rw [Ad C.c_z189.1 C.c_z189.2]
 have h64:=ht.n64
 have hke:HG t u=A1c t u t.nodes.length:=by rw [HG,if_neg (by omega)];rfl
 rw [hke]
 have c0:decide ((u:Int) < 0)=false:=decide_eq_false (by omega)
 have c1:decide ((t.nodes.length:Int)<=u)=false:=decide_eq_false (by omega)
 have c1':decide (t.nodes.length<=u)=false:=decide_eq_false (by omega)
 have c2:decide ((t.at u).thread < 0)=false:=decide_eq_false (by omega)
 simp only [A09,go_sem,↓reduceIte,c0,c1,c1',hu,A7 hu,c2]
 refine Ab (by decide) t.nodes.length (by omega) (I:=fun k F h=>A4.tmp F 1 = .i .i64 u/\A4.tmp F 2 = .fp (eT t) 0/\∃ L,L=nI (A1c t u k)/\A4.tmp F 5 = .sl 0 L.length 0 L.length/\h=[some (AW AO 1 (L.map eI))]) ?_ ?_ ?_ 0 _ _ (zero_le _) ?_ ?_
 .rintro k F h hk p6 ⟨p1,p2,L,hL,p5,rfl⟩
  simp only [go_sem,↓reduceIte,p1,p2,p5,p6]
  exact ⟨L,hL,rfl,rfl⟩
 .rintro k F h hk p6 ⟨p1,p2,L,hL,p5,rfl⟩
  have hlen:=Ahv t u k
  have b1:(L.length+1) * 8<=Aa:=by rw [hL,C2];unfold Aa;omega
  cases c3:decide ((t.at k).up=(u:Int)) with
  | false =>
   simp only [go_sem,↓reduceIte,p1,p2,p5,p6,hk,A7 hk,c3,A0]
   exact ⟨L,by rw [AnX c3];exact hL,rfl,rfl⟩
  | true =>
   simp only [go_sem,↓reduceIte,p1,p2,p5,p6,hk,A7 hk,c3,A0,b1,Du,length_append,length_map]
   exact ⟨L++[(k:Int)],by rw [AnY c3,hL,YL],by simp,rfl⟩
 .rintro F h ⟨p1,p2,L,hL,p5,rfl⟩
  subst hL
  simp only [go_sem,↓reduceIte,p1,p2,p5,length_map]
 .simp only [go_sem,↓reduceIte]
 .simp only [go_sem,↓reduceIte]
  exact ⟨[],rfl,rfl,rfl⟩
theorem K0 (t:A1) (ht:A5 t) (u:Nat) (hu:u < t.nodes.length):VP V W6 [vT t,.i .i64 u] Q↔Q (.b (Hl t u)):=by
 refine Ae ?_
 rw [Ad C.c_z190.1 C.c_z190.2]
 have h64:=ht.n64
 have w1:IntKind.i64.wrap ((u:Int)+1)=((u+1:Nat):Int):=by rw [Az (by omega) (by omega)];omega
 unfold Hl
 by_cases c1:u+1 < t.nodes.length
 .have c1':decide (((u+1:Nat):Int) < (t.nodes.length:Int))=true:=decide_eq_true (by omega)
  cases c2:decide ((t.at (u+1)).up=(u:Int)) with
  | false=>simp only [PN,go_sem,↓reduceIte,w1,c1,c1',A7 c1,c2]
  | true =>
   have c2':=of_decide_eq_true c2
   simp only [PN,go_sem,↓reduceIte,w1,c1,c1',A7 c1,c2]
 .have c1':decide (((u+1:Nat):Int) < (t.nodes.length:Int))=false:=decide_eq_false (by omega)
  simp only [PN,go_sem,↓reduceIte,w1,c1,c1']
theorem A2G (t:A1) (ht:A5 t) (s:A6) (hs:DL s) (hz:s.has.length < 1000/\s.jf.length < 1000/\∀ l∈s.mo,∀ c∈l,c.length < 1000) {n:Nat} (hn:n < t.nodes.length) {s':A6} (hw:Wlk t s n s') (hml:s.mo.length=t.locs.length)
  (hne:∀ loc,loc < s.mo.length->0 < (s.mo.getD loc []).length) (h1:∀ loc,loc < s.mo.length->∀ c∈s.mo.getD loc [],∃ w:Int,c=[w]):VP V Vi [vT t,Dy s,.i .i64 n] Q↔Q (Dy s'):=by
 refine Ae ?_
 rw [Ad C.c_z143.1 C.c_z143.2]
 cases hw with
 | bar hk e =>
  have hb:=fun (Q:VV->Prop)=>XV C t ht s hs n (Q:=Q)
  rw [e,Cq] at hb
  simp only [PJ,go_sem,↓reduceIte,hn,A7 hn,hk,hb,A0]
 | read loc hk hloc e =>
  have hl:=ht.wloc hn (.inl hk)
  have hll:loc < s.mo.length:=by omega
  have gL:=C1 hll
  have hm:=hs.mi' loc
  have hp:=hne loc hll
  obtain ⟨w,hw⟩:=h1 loc hll _ (Ai (d:=[]) (show (s.mo.getD loc []).length - 1 < (s.mo.getD loc []).length by omega))
  have hla:Ep s loc=w:=by rw [Ep,hw];rfl
  have gI:=ET (xs:=s.mo.getD loc []) (show (s.mo.getD loc []).length - 1 < (s.mo.getD loc []).length by omega)
  rw [hw] at gI
  rw [hla] at e
  obtain ⟨L,hL⟩:∃ L,L=s.mo.getD loc []:=⟨_,rfl⟩
  rw [<- hL] at gL gI hm hp
  have w1:IntKind.i64.wrap ((L.length:Int) - 1)=((L.length - 1:Nat):Int):=by rw [Az (by omega) (by omega)];omega
  have hlt:L.length - 1 < L.length:=by omega
  have hr:=fun (Q:VV->Prop)=>Rm C t ht s hs ⟨hz.1,hz.2.1⟩ n w (Q:=Q)
  rw [e,Cq] at hr
  simp only [PJ,go_sem,↓reduceIte,hn,A7 hn,hk,hloc,hll,gL,gI,w1,hlt,hr,A0]
 | write loc hk hloc e =>
  have hl:=ht.wloc hn (.inr hk)
  have hll:loc < s.mo.length:=by omega
  have gL:=C1 hll
  have hm:=hs.mi' loc
  obtain ⟨L,hL⟩:∃ L,L=s.mo.getD loc []:=⟨_,rfl⟩
  rw [<- hL] at gL hm e
  have hr:=fun (Q:VV->Prop)=>Pl C t ht s hs n (L.length:Nat) (Q:=Q)
  rw [e,Cq] at hr
  simp only [PJ,go_sem,↓reduceIte,hn,A7 hn,hk,hloc,hll,gL,hr,A0]
end
def Qv:Option (Nat×List Int)->VV
 | none=>.tu [.i .i64 0,.ls [],.b false]
 | some (to,out)=>.tu [.i .i64 (to:Nat),lI out,.b true]
theorem Aib (l:List Int) (k:Nat) (v:Int):(l.map eI).set k [.i .i64 v]=(l.set k v).map eI:=by rw [List.map_set]
theorem Adg {l:List Nat} {p:Nat->Bool} {k:Nat} (hk:k < l.length) (h:∀ j,j < k->∀ hj:j < l.length,p l[j]=false) (hp:p l[k]=true):l.find? p=some l[k]:=by
 rw [List.find?_eq_some_iff_getElem]
 exact ⟨hp,k,hk,rfl,fun j hj=>by rw [h j hj (by omega)];rfl⟩
theorem Adh {l:List Nat} {p:Nat->Bool} (h:∀ j,j < l.length->∀ hj:j < l.length,p l[j]=false):l.find? p=none:=by
 rw [List.find?_eq_none]
 intro x hx
 obtain ⟨j,hj,rfl⟩:=List.getElem_of_mem hx
 rw [h j hj hj];decide
section
variable {V:At} (C:Aq V) {Q:VV->VH->Prop}
include C
theorem A7s (t:A1) (ht:A5 t) {u:Nat} (hu:u < t.nodes.length) (hth:0<=(t.at u).thread) (mem:List Int) (hm:mem.length=t.locs.length) (x0 x1 x2 x3 x4 x5:Option VO) :
  Hs V GZ [vT t,.i .i64 u,lI mem] [x0,x1,x2,x3,x4,x5] Q↔Q (Qv (EY t u mem)) [x0,x1,x2,x3,x4,x5]:=by
 refine Dn ?_
 rw [Cm C.h_z142]
 have h64:=ht.n64
 have l4:=ht.l4
 unfold EY
 cases cf:(t.at u).fin with
 | true =>
  simp only [Hw,go_sem,↓reduceIte,hu,A7 hu,cf]
  rfl
 | false =>
 simp only [Hw,go_sem,↓reduceIte,hu,A7 hu,cf,Ri C t ht u hu hth]
 have hKm:∀ i∈HG t u,i < t.nodes.length/\(t.at i).up=(u:Int):=by
  intro i hi
  unfold HG at hi
  rw [if_neg (by omega)] at hi
  simpa only [mem_filter,mem_range,decide_eq_true_eq] using hi
 have hKl:(HG t u).length<=64:=by
  unfold HG
  rw [if_neg (by omega)]
  refine le_trans (length_filter_le _ _) ?_
  simpa using h64
 obtain ⟨K,hK⟩:∃ K,K=HG t u:=⟨_,rfl⟩
 rw [<- hK] at hKm hKl ⊢
 refine Ab (by decide) K.length (by omega) (I:=fun k F h=>(∀ j,j < k->∀ hj:j < K.length,GQ t mem K[j]=false)/\A4.tmp F 2=lI mem/\A4.tmp F 3 = .fp (eT t) 0/\A4.tmp F 9=lI (nI K)/\h=[x0,x1,x2,x3,x4,x5]) ?_ ?_ ?_ 0 _ _ (zero_le _) ?_ ?_
 .rintro k F h hk p10 ⟨hj,p2,p3,p9,rfl⟩
  simp only [go_sem,↓reduceIte,p2,p3,p9,p10,C2]
  exact hj
 .rintro k F h hk p10 ⟨hj,p2,p3,p9,rfl⟩
  obtain ⟨hin,hiu⟩:=hKm K[k] (getElem_mem hk)
  have gK:(nI K)[k]? = some ((K[k]:Nat):Int):=by simp [nI,hk]
  have hnext:GQ t mem K[k]=false->∀ j,j < k+1->∀ hj:j < K.length,GQ t mem K[j]=false:=fun hc j h1 h2=>by
   by_cases c:j=k
   .subst c;exact hc
   .exact hj j (by omega) h2
  have hfind:GQ t mem K[k]=true->K.find? (GQ t mem)=some K[k]:=fun hc=>Adg hk hj hc
  have hb8:mem.length * 8<=Aa:=by unfold Aa;omega
  have htk:∀ n v,List.take mem.length (mem.set n v)=mem.set n v:=fun n v=>List.take_of_length_le (by rw [length_set];exact Nat.le_refl _)
  generalize K[k]=i at hin hiu gK hnext hfind
  cases c2:decide ((t.at i).kind=2) with
  | true =>
   have c2':=of_decide_eq_true c2
   have hl:=ht.wloc hin (.inl c2')
   obtain ⟨loc,hloc⟩:=eq_ofNat_of_zero_le hl.1
   have hll:loc < mem.length:=by omega
   have gm:=Ar hll
   cases cv:decide ((t.at i).val=mem.getD loc 0) with
   | false =>
    have hc:GQ t mem i=false:=by simp only [GQ,c2,hloc,toNat_natCast,cv];rfl
    simp only [go_sem,↓reduceIte,p2,p3,p9,p10,hk,C2,gK,hin,A7 hin,c2,hloc,hll,gm,cv,A0]
    exact hnext hc
   | true =>
    have hc:GQ t mem i=true:=by simp only [GQ,cv,hloc,toNat_natCast,Bool.or_true]
    have hfd:=hfind hc
    cases cr:Hl t i with
    | false =>
     have hto:toF t i=i:=by rw [toF,if_neg (by rw [cr];simp)]
     have ho:Ju t mem i=mem:=by rw [Ju,if_neg (by omega)]
     have c3:decide ((t.at i).kind=3)=false:=decide_eq_false (by omega)
     simp only [go_sem,↓reduceIte,p2,p3,p9,p10,hk,C2,gK,hin,A7 hin,c2,hloc,hll,gm,cv,K0 C t ht i hin,cr,c3,A0,hb8]
     simp only [hfd,Option.map_some,hto,ho,Qv]
     all_goals trivial
    | true =>
     have hr:=cr
     simp only [Hl,Bool.and_eq_true,decide_eq_true_eq] at hr
     obtain ⟨⟨r1,r2⟩,r3⟩:=hr
     have k3:=ht.rmw3 r1 (by omega) r3
     have c3:decide ((t.at (i+1)).kind=3)=true:=decide_eq_true k3
     have hl2:=ht.wloc r1 (.inr k3)
     obtain ⟨loc2,hloc2⟩:=eq_ofNat_of_zero_le hl2.1
     have hll2:loc2 < mem.length:=by omega
     have gm2:=Ar hll2
     have hto:toF t i=i+1:=by rw [toF,if_pos ⟨c2',cr⟩]
     have ho:Ju t mem (i+1)=mem.set loc2 (t.at (i+1)).val:=by rw [Ju,if_pos k3,hloc2,toNat_natCast]
     have w1:IntKind.i64.wrap ((i:Int)+1)=((i+1:Nat):Int):=by rw [Az (by omega) (by omega)];omega
     simp only [go_sem,↓reduceIte,p2,p3,p9,p10,hk,C2,gK,hin,A7 hin,c2,hloc,hll,gm,cv,K0 C t ht i hin,cr,w1,r1,A7 r1,c3,hloc2,hll2,gm2,A0,hb8,Aib,length_map,length_set,htk]
     simp only [hfd,Option.map_some,hto,ho,Qv]
     all_goals trivial
  | false =>
   have c2':=of_decide_eq_false c2
   have hc:GQ t mem i=true:=by simp only [GQ,c2];rfl
   have hfd:=hfind hc
   have hto:toF t i=i:=by rw [toF,if_neg (fun h=>c2' h.1)]
   cases c3:decide ((t.at i).kind=3) with
   | false =>
    have ho:Ju t mem i=mem:=by rw [Ju,if_neg (of_decide_eq_false c3)]
    simp only [go_sem,↓reduceIte,p2,p3,p9,p10,hk,C2,gK,hin,A7 hin,c2,c3,A0,hb8]
    simp only [hfd,Option.map_some,hto,ho,Qv]
    all_goals trivial
   | true =>
    have k3:=of_decide_eq_true c3
    have hl2:=ht.wloc hin (.inr k3)
    obtain ⟨loc2,hloc2⟩:=eq_ofNat_of_zero_le hl2.1
    have hll2:loc2 < mem.length:=by omega
    have gm2:=Ar hll2
    have ho:Ju t mem i=mem.set loc2 (t.at i).val:=by rw [Ju,if_pos k3,hloc2,toNat_natCast]
    simp only [go_sem,↓reduceIte,p2,p3,p9,p10,hk,C2,gK,hin,A7 hin,c2,c3,hloc2,hll2,gm2,A0,hb8,Aib,length_map,length_set,htk]
    simp only [hfd,Option.map_some,hto,ho,Qv]
    all_goals trivial
 .rintro F h ⟨hj,p2,p3,p9,rfl⟩
  have hno:=Adh hj
  simp only [go_sem,↓reduceIte,p2,p3,p9]
  rw [hno]
  rfl
 .simp only [go_sem,↓reduceIte]
 .simp only [go_sem,↓reduceIte]
  exact fun j hj=>absurd hj (Nat.not_lt_zero _)
theorem A7t (t:A1) (ht:A5 t) {u:Nat} (hu:u < t.nodes.length) (hth:0<=(t.at u).thread) (mem:List Int) (hm:mem.length=t.locs.length) (x0 x1 x2 x4 x5:Option VO) :
  Hs V GZ [vT t,.i .i64 u,.sl 3 mem.length 0 mem.length] [x0,x1,x2,some (AW AO 1 (mem.map eI)),x4,x5] Q↔Q (Qv (EY t u mem)) [x0,x1,x2,some (AW AO 1 (mem.map eI)),x4,x5]:=by
 refine Dn ?_
 rw [Cm C.h_z142]
 have h64:=ht.n64
 have l4:=ht.l4
 unfold EY
 cases cf:(t.at u).fin with
 | true =>
  simp only [Hw,go_sem,↓reduceIte,hu,A7 hu,cf]
  rfl
 | false =>
 simp only [Hw,go_sem,↓reduceIte,hu,A7 hu,cf,Ri C t ht u hu hth]
 have hKm:∀ i∈HG t u,i < t.nodes.length/\(t.at i).up=(u:Int):=by
  intro i hi
  unfold HG at hi
  rw [if_neg (by omega)] at hi
  simpa only [mem_filter,mem_range,decide_eq_true_eq] using hi
 have hKl:(HG t u).length<=64:=by
  unfold HG
  rw [if_neg (by omega)]
  refine le_trans (length_filter_le _ _) ?_
  simpa using h64
 obtain ⟨K,hK⟩:∃ K,K=HG t u:=⟨_,rfl⟩
 rw [<- hK] at hKm hKl ⊢
 refine Ab (by decide) K.length (by omega) (I:=fun k F h=>(∀ j,j < k->∀ hj:j < K.length,GQ t mem K[j]=false)/\A4.tmp F 2 = .sl 3 mem.length 0 mem.length/\A4.tmp F 3 = .fp (eT t) 0/\A4.tmp F 9=lI (nI K)/\h=[x0,x1,x2,some (AW AO 1 (mem.map eI)),x4,x5]) ?_ ?_ ?_ 0 _ _ (zero_le _) ?_ ?_
 .rintro k F h hk p10 ⟨hj,p2,p3,p9,rfl⟩
  simp only [go_sem,↓reduceIte,p2,p3,p9,p10,C2]
  exact hj
 .rintro k F h hk p10 ⟨hj,p2,p3,p9,rfl⟩
  obtain ⟨hin,hiu⟩:=hKm K[k] (getElem_mem hk)
  have gK:(nI K)[k]? = some ((K[k]:Nat):Int):=by simp [nI,hk]
  have hnext:GQ t mem K[k]=false->∀ j,j < k+1->∀ hj:j < K.length,GQ t mem K[j]=false:=fun hc j h1 h2=>by
   by_cases c:j=k
   .subst c;exact hc
   .exact hj j (by omega) h2
  have hfind:GQ t mem K[k]=true->K.find? (GQ t mem)=some K[k]:=fun hc=>Adg hk hj hc
  have hsrc:∀ (h:VH) (x:VV) (b:Nat),h[3]? = some (some (AW AO 1 (mem.map eI)))->Kr h AO 1 b x (.sl 3 mem.length 0 mem.length)=Kr h AO 1 b x (.ls (mem.map eI)):=fun h x b hh=>by
   have:=AiJ (h:=h) hh (Acc (fun _=>rfl))
   rw [length_map] at this
   exact Aiy this
  have hb8:mem.length * 8<=Aa:=by unfold Aa;omega
  have htk:∀ n v,List.take mem.length (mem.set n v)=mem.set n v:=fun n v=>List.take_of_length_le (by rw [length_set];exact Nat.le_refl _)
  generalize K[k]=i at hin hiu gK hnext hfind
  cases c2:decide ((t.at i).kind=2) with
  | true =>
   have c2':=of_decide_eq_true c2
   have hl:=ht.wloc hin (.inl c2')
   obtain ⟨loc,hloc⟩:=eq_ofNat_of_zero_le hl.1
   have hll:loc < mem.length:=by omega
   have gm:=Ar hll
   have hix:=G8 (ty:=AO) (e:=1) (rows:=mem.map eI) (by rw [length_map];omega)
   cases cv:decide ((t.at i).val=mem.getD loc 0) with
   | false =>
    have hc:GQ t mem i=false:=by simp only [GQ,c2,hloc,toNat_natCast,cv];rfl
    simp only [go_sem,↓reduceIte,p2,p3,p9,p10,hk,C2,gK,hin,A7 hin,c2,hloc,hll,gm,hix,hsrc,cv,A0]
    exact hnext hc
   | true =>
    have hc:GQ t mem i=true:=by simp only [GQ,cv,hloc,toNat_natCast,Bool.or_true]
    have hfd:=hfind hc
    cases cr:Hl t i with
    | false =>
     have hto:toF t i=i:=by rw [toF,if_neg (by rw [cr];simp)]
     have ho:Ju t mem i=mem:=by rw [Ju,if_neg (by omega)]
     have c3:decide ((t.at i).kind=3)=false:=decide_eq_false (by omega)
     simp only [go_sem,↓reduceIte,p2,p3,p9,p10,hk,C2,gK,hin,A7 hin,c2,hloc,hll,gm,hix,hsrc,cv,K0 C t ht i hin,cr,c3,A0,hb8]
     simp only [hfd,Option.map_some,hto,ho,Qv]
     all_goals trivial
    | true =>
     have hr:=cr
     simp only [Hl,Bool.and_eq_true,decide_eq_true_eq] at hr
     obtain ⟨⟨r1,r2⟩,r3⟩:=hr
     have k3:=ht.rmw3 r1 (by omega) r3
     have c3:decide ((t.at (i+1)).kind=3)=true:=decide_eq_true k3
     have hl2:=ht.wloc r1 (.inr k3)
     obtain ⟨loc2,hloc2⟩:=eq_ofNat_of_zero_le hl2.1
     have hll2:loc2 < mem.length:=by omega
     have gm2:=Ar hll2
     have hto:toF t i=i+1:=by rw [toF,if_pos ⟨c2',cr⟩]
     have ho:Ju t mem (i+1)=mem.set loc2 (t.at (i+1)).val:=by rw [Ju,if_pos k3,hloc2,toNat_natCast]
     have w1:IntKind.i64.wrap ((i:Int)+1)=((i+1:Nat):Int):=by rw [Az (by omega) (by omega)];omega
     simp only [go_sem,↓reduceIte,p2,p3,p9,p10,hk,C2,gK,hin,A7 hin,c2,hloc,hll,gm,hix,hsrc,cv,K0 C t ht i hin,cr,w1,r1,A7 r1,c3,hloc2,hll2,gm2,A0,hb8,Aib,length_map,length_set,htk]
     simp only [hfd,Option.map_some,hto,ho,Qv]
     all_goals trivial
  | false =>
   have c2':=of_decide_eq_false c2
   have hc:GQ t mem i=true:=by simp only [GQ,c2];rfl
   have hfd:=hfind hc
   have hto:toF t i=i:=by rw [toF,if_neg (fun h=>c2' h.1)]
   cases c3:decide ((t.at i).kind=3) with
   | false =>
    have ho:Ju t mem i=mem:=by rw [Ju,if_neg (of_decide_eq_false c3)]
    simp only [go_sem,↓reduceIte,p2,p3,p9,p10,hk,C2,gK,hin,A7 hin,c2,hsrc,c3,A0,hb8]
    simp only [hfd,Option.map_some,hto,ho,Qv]
    all_goals trivial
   | true =>
    have k3:=of_decide_eq_true c3
    have hl2:=ht.wloc hin (.inr k3)
    obtain ⟨loc2,hloc2⟩:=eq_ofNat_of_zero_le hl2.1
    have hll2:loc2 < mem.length:=by omega
    have gm2:=Ar hll2
    have ho:Ju t mem i=mem.set loc2 (t.at i).val:=by rw [Ju,if_pos k3,hloc2,toNat_natCast]
    simp only [go_sem,↓reduceIte,p2,p3,p9,p10,hk,C2,gK,hin,A7 hin,c2,hsrc,c3,hloc2,hll2,gm2,A0,hb8,Aib,length_map,length_set,htk]
    simp only [hfd,Option.map_some,hto,ho,Qv]
    all_goals trivial
 .rintro F h ⟨hj,p2,p3,p9,rfl⟩
  have hno:=Adh hj
  simp only [go_sem,↓reduceIte,p2,p3,p9]
  rw [hno]
  rfl
 .simp only [go_sem,↓reduceIte]
 .simp only [go_sem,↓reduceIte]
  exact fun j hj=>absurd hj (Nat.not_lt_zero _)
end
theorem Arm {t:A1} {k:Nat} (h1:decide ((t.at k).thread < 0)=false) (h2:decide ((t.at k).up < 0)=true):at0 t (k+1)=at0 t k++[k]:=by
 rw [at0,range_succ,filter_append];simp [h1,h2,at0,of_decide_eq_false h1,of_decide_eq_true h2]
theorem Anf {t:A1} {k:Nat} (h1:decide ((t.at k).thread < 0)=true):at0 t (k+1)=at0 t k:=by
 rw [at0,range_succ,filter_append];simp [h1,at0,of_decide_eq_true h1]
theorem Ang {t:A1} {k:Nat} (h2:decide ((t.at k).up < 0)=false):at0 t (k+1)=at0 t k:=by
 rw [at0,range_succ,filter_append];simp [h2,at0,of_decide_eq_false h2]
theorem Ap4 {t:A1} {k:Nat} (h1:decide ((t.at k).thread < 0)=true):Q2 t (k+1)=Q2 t k++[(t.at k).val]:=by
 rw [Q2,range_succ,filter_append];simp [h1,Q2,of_decide_eq_true h1]
theorem AhE {t:A1} {k:Nat} (h1:decide ((t.at k).thread < 0)=false):Q2 t (k+1)=Q2 t k:=by
 rw [Q2,range_succ,filter_append];simp [h1,Q2,of_decide_eq_false h1]
theorem Ajr (t:A1) (k:Nat):(at0 t k).length<=k:=by
 refine le_trans (length_filter_le _ _) ?_;simp
theorem AhF (t:A1) (k:Nat):(Q2 t k).length<=k:=by
 rw [Q2,length_map];refine le_trans (length_filter_le _ _) ?_;simp
def PA (t:A1) (at_:List Nat) (mem:List Int) (j:Nat):List Nat:=(List.range j).filter fun i=>(EY t (at_.getD i 0) mem).isSome
theorem Anm {t:A1} {at_:List Nat} {mem:List Int} {j:Nat} {x:Nat×List Int} (h:EY t (at_.getD j 0) mem=some x):PA t at_ mem (j+1)=PA t at_ mem j++[j]:=by
 rw [PA,range_succ,filter_append,List.filter_cons_of_pos (by rw [h];rfl)];rfl
theorem Anl {t:A1} {at_:List Nat} {mem:List Int} {j:Nat} (h:EY t (at_.getD j 0) mem=none):PA t at_ mem (j+1)=PA t at_ mem j:=by
 rw [PA,range_succ,filter_append,List.filter_cons_of_neg (by rw [h];decide)];simp [PA]
theorem AgJ (t:A1) (at_:List Nat) (mem:List Int) (k:Nat):(PA t at_ mem k).length<=k:=by
 refine le_trans (length_filter_le _ _) ?_;simp
def b6:Option VO:=some ⟨Af,0,0,false,[[.nl,.nl,.nl]]⟩
def b9 (s:A6):Option VO:=some ⟨Af,0,0,false,[Je s]⟩
def atO (l:List Nat):Option VO:=some (AW AO 1 ((nI l).map eI))
def Ajc (mem:List Int) (mv:VV) (x3:Option VO):Prop:=mv=lI mem\/(mv = .sl 3 mem.length 0 mem.length/\x3=some (AW AO 1 (mem.map eI)))
structure RoI (P:A6->Prop) (t:A1) (l:List U8) (r:Nat) (F:A4) (h:VH) (s:A6) (at_:List Nat) (mem:List Int) (k a:Nat) (mv:VV) (x3:Option VO):Prop where
 wi:WI t s mem k
 si:StI t s at_
 rk:r<=k
 ha:a<=l.length
 mv_:Ajc mem mv x3
 p3:A4.tmp F 3 = .fp (eT t) 0
 p2:A4.tmp F 2 = .i .i64 70
 p6:A4.tmp F 6 = .p 0 0 0 0
 p9:A4.tmp F 9 = .p 1 0 0 0
 p10:A4.tmp F 10 = .sl 2 at_.length 0 at_.length
 p11:A4.tmp F 11=mv
 p13:A4.tmp F 13 = .p 4 0 0 0
 hh:h=[b6,b9 s,atO at_,x3,MO l a]
 pp:P s
section
variable {V:At} (C:Aq V)
include C
theorem A7r (t:A1) (ht:A5 t) {u:Nat} (hu:u < t.nodes.length) (hth:0<=(t.at u).thread) {mem:List Int} (hm:mem.length=t.locs.length) {mv:VV} {x3:Option VO} (k:Ajc mem mv x3) (x0 x1 x2 x4 x5:Option VO) {Q:VV->VH->Prop} :
  Hs V GZ [vT t,.i .i64 u,mv] [x0,x1,x2,x3,x4,x5] Q↔Q (Qv (EY t u mem)) [x0,x1,x2,x3,x4,x5]:=by
 rcases k with rfl | ⟨rfl,rfl⟩
 .exact A7s C t ht hu hth mem hm x0 x1 x2 x3 x4 x5
 .exact A7t C t ht hu hth mem hm x0 x1 x2 x4 x5
omit C in
theorem Ajc.cl {mem:List Int} {mv:VV} {x3:Option VO} (k:Ajc mem mv x3) {n:Nat} (hn:3 < n):QO n mv=mv:=by
 rcases k with rfl | ⟨rfl,rfl⟩
 .rfl
 .show (bif Nat.blt 3 n then _ else _)=_
  rw [show Nat.blt 3 n=true from by simp only [Nat.blt_eq];exact hn];rfl
theorem Aad (l:List U8) (x0 x1 x2 x3:Option VO) {Q:VV->VH->Prop}:NR V LM [lU l] [x0,x1,x2,x3] Q↔Q (.p 4 0 0 0) [x0,x1,x2,x3,MO l 0]:=by
 refine Pv ?_
 rw [GN C.h_z52]
 simp only [P6,go_sem,↓reduceIte]
 rfl
theorem AhG (l:List U8) (hl:l.length<=1000/\∀ x∈l,x.n < 256) (a:Nat) (ha:a<=l.length) (n:Int) (x0 x1 x2 x3 x5:Option VO) :
  Hs V Li [.p 4 0 0 0,.i .i64 n] [x0,x1,x2,x3,MO l a,x5] fun v h=>∃ k:Nat,v = .i .i64 k/\(1<=n->(k:Int) < n)/\∃ a',a'<=l.length/\h=[x0,x1,x2,x3,MO l a',x5]:=by
 rw [Cm C.h_z117]
 by_cases c1:l.length<=a
 .simp only [Kc,go_sem,↓reduceIte,c1]
  exact ⟨0,rfl,fun h=>by omega,a,ha,rfl⟩
 .by_cases c2:n < 1
  .simp only [Kc,go_sem,↓reduceIte,c1,c2]
   exact ⟨0,rfl,fun h=>by omega,a,ha,rfl⟩
  .have hlt:a < l.length:=by omega
   have hcell:l[a]? = some l[a]:=List.getElem?_eq_getElem hlt
   have hb:=hl.2 _ (getElem_mem hlt)
   have w0:IntKind.i64.wrap ((l[a].n:Nat):Int)=(l[a].n:Nat):=Az (by omega) (by omega)
   have w3:((l[a].n:Nat):Int).tmod n=(((l[a].n:Nat):Int) % n):=Int.tmod_eq_emod_of_nonneg (by omega)
   have w1:=HL (show a < 9223372036854775807 by omega)
   have w2:IntKind.i64.wrap (((a+1:Nat):Int) - 1)=(a:Int):=by rw [Az (by omega) (by omega)];omega
   simp only [Kc,go_sem,↓reduceIte,c1,c2,hcell,w1,w2,Hp (show n≠0 by omega),w0,w3]
   have m1:=Int.emod_nonneg ((l[a].n:Nat):Int) (show n≠0 by omega)
   have m2:=Int.emod_lt_of_pos ((l[a].n:Nat):Int) (show 0 < n by omega)
   exact ⟨(((l[a].n:Nat):Int) % n).toNat,by omega,fun h=>by omega,a+1,by omega,rfl⟩
theorem R3 (t:A1) (ht:A5 t) {P:A6->Prop} (P0:P (Bu t)) (P1:∀ s n s',AG t s->P s->Wlk t s n s'->P s') (l:List U8) (hl:l.length<=1000/\∀ x∈l,x.n < 256) {Q:VV->Prop} (hq:∀ s mem k at_,WI t s mem k->StI t s at_->(∀ u∈at_,EY t u mem=none)->P s->Q (.tu [Dy s,.b true,lI mem])):VP V XT [vT t,lU l,.i .i64 70] Q:=by
 rw [Ad C.c_z80.1 C.c_z80.2]
 have h64:=ht.n64
 simp only [A9z,go_sem,↓reduceIte,Kj C t ht]
 refine Ab (by decide) t.nodes.length (by omega) (I:=fun k F h=>A4.tmp F 1=lU l/\A4.tmp F 2 = .i .i64 70/\A4.tmp F 3 = .fp (eT t) 0/\A4.tmp F 6 = .p 0 0 0 0/\A4.tmp F 9 = .p 1 0 0 0/\∃ L,L=nI (at0 t k)/\∃ M,M=Q2 t k/\A4.tmp F 10 = .sl 2 L.length 0 L.length/\A4.tmp F 11 = .sl 3 M.length 0 M.length/\h=[b6,b9 (Bu t),some (AW AO 1 (L.map eI)),some (AW AO 1 (M.map eI))]) ?_ ?_ ?_ 0 _ _ (zero_le _) ?_ ?_
 .rintro k F h hk p12 ⟨p1,p2,p3,p6,p9,L,hL,M,hM,p10,p11,rfl⟩
  simp only [go_sem,↓reduceIte,p1,p2,p3,p6,p9,p10,p11,p12]
  exact ⟨L,hL,M,hM,rfl,rfl,rfl⟩
 .rintro k F h hk p12 ⟨p1,p2,p3,p6,p9,L,hL,M,hM,p10,p11,rfl⟩
  have h1:=Ajr t k
  have h2:=AhF t k
  have q1:(L.length+1) * 8<=Aa:=by rw [hL,C2];unfold Aa;omega
  have q2:(M.length+1) * 8<=Aa:=by rw [hM];unfold Aa;omega
  cases c1:decide ((t.at k).thread < 0) with
  | true =>
   simp only [go_sem,↓reduceIte,p1,p2,p3,p6,p9,p10,p11,p12,hk,A7 hk,c1,A0,b6,b9,q2,Du,length_append,length_map]
   exact ⟨L,by rw [Anf c1];exact hL,M++[(t.at k).val],by rw [Ap4 c1,hM],by simp,by simp,rfl⟩
  | false =>
  cases c2:decide ((t.at k).up < 0) with
  | true =>
   simp only [go_sem,↓reduceIte,p1,p2,p3,p6,p9,p10,p11,p12,hk,A7 hk,c1,c2,A0,b6,b9,q1,Du,length_append,length_map]
   exact ⟨L++[(k:Int)],by rw [Arm c1 c2,hL,YL],M,by rw [AhE c1];exact hM,by simp,by simp,rfl⟩
  | false =>
   simp only [go_sem,↓reduceIte,p1,p2,p3,p6,p9,p10,p11,p12,hk,A7 hk,c1,c2,A0,b6,b9]
   exact ⟨L,by rw [Ang c2];exact hL,M,by rw [AhE c1];exact hM,rfl,rfl,rfl⟩
 .rintro F h ⟨p1,p2,p3,p6,p9,L,hL,M,hM,p10,p11,rfl⟩
  simp only [go_sem,↓reduceIte,p1,p2,p3,p6,p9,p10,p11,Aad C l]
  refine Ab (by decide) 70 (by omega) (I:=fun r F h=>∃ s at_ mem k a mv x3,RoI P t l r F h s at_ mem k a mv x3) ?_ ?_ ?_ 0 _ _ (zero_le _) ?_ ?_
  .rintro r F h hr p14 ⟨s,at_,mem,k,a,mv,x3,R⟩
   have hd:decide ((r:Int) < 70)=decide (r < 70):=decide_eq_decide.2 (by omega)
   obtain ⟨W,S,rk,ha,hmv,p3,p2,p6,p9,p10,p11,p13,rfl,hP⟩:=R
   simp only [go_sem,↓reduceIte,p2,p3,p6,p9,p10,p11,p13,p14,hd]
   refine ⟨s,at_,mem,k,a,mv,x3,W,S,rk,ha,hmv,?_,?_,?_,?_,?_,?_,?_,rfl,hP⟩<;>simp only [go_sem,↓reduceIte,p2,p3,p6,p9,p10,p11,p13]
  .rintro r F h hr p14 ⟨s,at_,mem,k,a,mv,x3,R⟩
   obtain ⟨W,S,rk,ha,hmv,p3,p2,p6,p9,p10,p11,p13,rfl,hP⟩:=R
   have hal:at_.length<=64:=by
    have hd:(at_.map fun (i:Nat)=>(i:Int)).Nodup:=by
     rw [List.nodup_iff_pairwise_ne,List.pairwise_map]
     exact S.pw.imp fun h e=>h (by rw [show _=_ from Int.ofNat.inj e])
    have:=KA _ s.has hd (fun y hy=>by
     obtain ⟨m,hm,rfl⟩:=List.mem_map.1 hy
     exact (S.has m hm).1)
    rw [length_map] at this
    have:=W.form.len
    omega
   have hcv:=hmv.cl (n:=6) (by decide)
   have hcv5:=hmv.cl (n:=5) (by decide)
   have hok:∀ j,j < at_.length->at_.getD j 0 < t.nodes.length/\0<=(t.at (at_.getD j 0)).thread:=fun j hj=>by
    have hm:=Ai (d:=0) hj
    obtain ⟨h1,h2⟩:=S.has _ hm
    obtain ⟨m,e,hm⟩:=A8 (W.gr.ok _ h1)
    exact ⟨by omega,h2⟩
   have hst:=fun (j:Nat) (hj:j < at_.length) (x0 x1 x2 x4 x5:Option VO) (Q:VV->VH->Prop)=>A7r C t ht (hok j hj).1 (hok j hj).2 W.ml hmv x0 x1 x2 x4 x5 (Q:=Q)
   simp only [go_sem,↓reduceIte,p2,p3,p6,p9,p10,p11,p13,p14,A0]
   refine Ab (by decide) at_.length (by omega) (I:=fun j F h=>A4.tmp F 2 = .i .i64 70/\A4.tmp F 3 = .fp (eT t) 0/\A4.tmp F 6 = .p 0 0 0 0/\A4.tmp F 9 = .p 1 0 0 0/\A4.tmp F 10 = .sl 2 at_.length 0 at_.length/\A4.tmp F 11=mv/\A4.tmp F 13 = .p 4 0 0 0/\A4.tmp F 14 = .i .i64 r/\∃ L,L=nI (PA t at_ mem j)/\A4.tmp F 15 = .sl 5 L.length 0 L.length/\h=[b6,b9 s,atO at_,x3,MO l a,some (AW AO 1 (L.map eI))]) ?_ ?_ ?_ 0 _ _ (zero_le _) ?_ ?_
   .rintro j F h hj p16 ⟨p2,p3,p6,p9,p10,p11,p13,p14,L,hL,p15,rfl⟩
    simp only [go_sem,↓reduceIte,p2,p3,p6,p9,p10,p11,p13,p14,p15,p16]
    exact ⟨L,hL,rfl,rfl⟩
   .rintro j F h hj p16 ⟨p2,p3,p6,p9,p10,p11,p13,p14,L,hL,p15,rfl⟩
    have gat:(nI at_)[j]? = some ((at_.getD j 0:Nat):Int):=by simp [nI,hj]
    have hs:=hst j hj b6 (b9 s) (atO at_) (MO l a) (some (AW AO 1 (L.map eI)))
    have hcl:=AgJ t at_ mem j
    have q1:(L.length+1) * 8<=Aa:=by rw [hL,C2];unfold Aa;omega
    have hao:atO at_=some ⟨AO,1,at_.length,false,(nI at_).map eI⟩:=by rw [atO,MN (by rw [length_map,C2];omega),length_map,C2]
    rw [hao] at hs ⊢
    cases e:EY t (at_.getD j 0) mem with
    | none =>
     rw [e] at hs
     simp only [go_sem,↓reduceIte,p2,p3,p6,p9,p10,p11,p13,p14,p15,p16,gat,hs,hj,C2,Qv,hcv,A0,length_map]
     exact ⟨L,by rw [Anl e];exact hL,rfl,rfl⟩
    | some x =>
     obtain ⟨to,out⟩:=x
     rw [e] at hs
     simp only [go_sem,↓reduceIte,p2,p3,p6,p9,p10,p11,p13,p14,p15,p16,gat,hs,hj,C2,Qv,hcv,A0,q1,Du,length_append,length_map]
     exact ⟨L++[(j:Int)],by rw [Anm e,hL,YL],by simp,rfl⟩
   .rintro F h ⟨p2,p3,p6,p9,p10,p11,p13,p14,L,hL,p15,rfl⟩
    cases c0:decide (L.length=0) with
    | true =>
     have c0':=of_decide_eq_true c0
     have c0i:decide ((L.length:Int)=0)=true:=decide_eq_true (by omega)
     have hfin:=hq s mem k at_ W S (fun u hu=>by
      obtain ⟨j,hj,rfl⟩:=List.getElem_of_mem hu
      have hnil:PA t at_ mem at_.length=[]:=List.length_eq_zero_iff.1 (by rwa [hL,C2] at c0')
      have hnm:j∉PA t at_ mem at_.length:=by rw [hnil];simp
      simp only [PA,mem_filter,mem_range,not_and,Bool.not_eq_true] at hnm
      have:=hnm hj
      rw [List.getD_eq_getElem?_getD,List.getElem?_eq_getElem hj] at this
      exact Option.isNone_iff_eq_none.1 (by rw [<- Option.not_isSome,show (EY t at_[j] mem).isSome=false from this];rfl)) hP
     rcases hmv with rfl | ⟨rfl,rfl⟩
     .simp only [go_sem,↓reduceIte,p2,p3,p6,p9,p10,p11,p13,p14,p15,c0,c0i,b6,b9,A0]
      exact hfin
     .simp only [go_sem,↓reduceIte,p2,p3,p6,p9,p10,p11,p13,p14,p15,c0,c0i,b6,b9,A0,length_map]
      exact hfin
    | false =>
    have c0':=of_decide_eq_false c0
    have c0i:decide ((L.length:Int)=0)=false:=decide_eq_false (by omega)
    simp only [go_sem,↓reduceIte,p2,p3,p6,p9,p10,p11,p13,p14,p15,c0,c0i]
    refine (AhG C l hl a ha _ _ _ _ _ _).mono ?_
    rintro _ _ ⟨p,rfl,hp,a',ha',rfl⟩
    have hpl:p < L.length:=by have:=hp (by omega);omega
    obtain ⟨q,hqe,hqm⟩:∃ q:Nat,L.getD p 0=q/\q∈PA t at_ mem at_.length:=by
     have hpl':p < (PA t at_ mem at_.length).length:=by rwa [hL,C2] at hpl
     exact ⟨_,by rw [hL];exact Ap7 hpl',getElem_mem hpl'⟩
    have gL:=Ar hpl
    rw [hqe] at gL
    simp only [PA,mem_filter,mem_range] at hqm
    obtain ⟨hql,hqs⟩:=hqm
    obtain ⟨⟨to,out⟩,e⟩:=Option.isSome_iff_exists.1 hqs
    have gat:(nI at_)[q]? = some ((at_.getD q 0:Nat):Int):=by simp [nI,hql]
    obtain ⟨hto,s1,s2,k1,k2,hif,W1,w2,W2,hk,S2⟩:=AlQ ht W S hql (u:=at_.getD q 0) (by rw [List.getD_eq_getElem?_getD,List.getElem?_eq_getElem hql];rfl) e
    have hs:=hst q hql b6 (b9 s) (atO at_) (MO l a') (some (AW AO 1 (L.map eI)))
    have hao:atO at_=some ⟨AO,1,at_.length,false,(nI at_).map eI⟩:=by rw [atO,MN (by rw [length_map,C2];omega),length_map,C2]
    have hao2:some ⟨AO,1,at_.length,false,(nI (at_.set q to)).map eI⟩ = atO (at_.set q to):=by rw [atO,MN (by rw [length_map,C2,length_set];omega),length_map,C2,length_set]
    rw [hao] at hs ⊢
    rw [e] at hs
    simp only [b6,b9] at hs
    have wk:=fun {s:A6} {k:Nat} (W:WI t s mem k) {n:Nat} (hn:n < t.nodes.length) {s':A6} (hw:Wlk t s n s') (Q:VV->Prop)=>A2G C t ht s (W.gr.sz ht (by have:=W.k64 ht;omega)) (W.gr.sz' (by have:=W.k64 ht;omega)) hn hw W.form.ml (fun loc hl=>W.pos hl) (fun loc hl c hc=>by obtain ⟨w,h,_⟩:=W.one loc hl c hc;exact ⟨w,h⟩) (Q:=Q)
    have hw2:=wk W1 hto w2
    have hix:=G8 (ty:=AO) (e:=1) (rows:=L.map eI) (by rw [length_map];exact c0')
    have hokB:okB 5 (atO (at_.set q to))=true:=by
     unfold atO
     simp only [go_sem]
    have hset:(List.map eI (nI at_)).set q [.i .i64 (to:Nat)]=(nI (at_.set q to)).map eI:=by rw [Aib,Ap8]
    have hP2:P s2:=by
     refine P1 _ _ _ W1.form ?_ w2
     split at hif
     .obtain ⟨m,_,_,w1⟩:=hif
      exact P1 _ _ _ W.form hP w1
     .rw [hif];exact hP
    cases cu:decide ((t.at to).up=((at_.getD q 0:Nat):Int)) with
    | true =>
     rw [if_neg (by rw [of_decide_eq_true cu];simp)] at hif
     subst hif
     simp only [go_sem,↓reduceIte,p2,p3,p6,p9,p10,p11,p13,p14,p15,gL,hpl,hix,gat,hs,hql,C2,Qv,hcv,hcv5,cu,hto,A7 hto,hw2,hset,hao2,b6,b9,A0,length_map]
     refine ⟨.inr hokB,fun _ _=>?_⟩
     refine ⟨s2,at_.set q to,out,k2,a',lI out,x3,W2,S2,by omega,ha',.inl rfl,?_,?_,?_,?_,?_,?_,?_,rfl,hP2⟩<;>simp only [go_sem,↓reduceIte,p2,p3,p6,p9,p10,p11,p13,length_set]
    | false =>
     rw [if_pos (of_decide_eq_false cu)] at hif
     obtain ⟨m,hm,hml,w1⟩:=hif
     have hw1:=wk W hml w1
     rw [<- hm] at hw1
     simp only [go_sem,↓reduceIte,p2,p3,p6,p9,p10,p11,p13,p14,p15,gL,hpl,hix,gat,hs,hql,C2,Qv,hcv,hcv5,cu,hto,A7 hto,hw1,hw2,hset,hao2,b6,b9,A0,length_map]
     refine ⟨.inr hokB,fun _ _=>?_⟩
     refine ⟨s2,at_.set q to,out,k2,a',lI out,x3,W2,S2,by omega,ha',.inl rfl,?_,?_,?_,?_,?_,?_,?_,rfl,hP2⟩<;>simp only [go_sem,↓reduceIte,p2,p3,p6,p9,p10,p11,p13,length_set]
   .simp only [go_sem,↓reduceIte]
   .simp only [go_sem,↓reduceIte,p2,p3,p6,p9,p10,p11,p13,p14]
    exact ⟨[],rfl,rfl,rfl⟩
  .rintro F h ⟨s,at_,mem,k,a,mv,x3,R⟩
   have:=R.wi.k64 ht
   have:=R.rk
   omega
  .simp only [go_sem,↓reduceIte]
  .subst hL hM
   rw [C2] at p10
   refine ⟨Bu t,at0 t t.nodes.length,Q2 t t.nodes.length,0,0,_,_,Asy ht,Amy ht,zero_le _,zero_le _,.inr ⟨rfl,rfl⟩,?_,?_,?_,?_,?_,?_,?_,rfl,P0⟩<;>simp only [go_sem,↓reduceIte,p2,p3,p6,p9,p10,p11]
 .simp only [go_sem,↓reduceIte]
 .simp only [go_sem,↓reduceIte]
  exact ⟨[],rfl,[],rfl,rfl,rfl,rfl⟩
end
theorem AiO {t:A1} (ht:A5 t) {s:A6} {mem:List Int} {k:Nat} {at_:List Nat} (W:WI t s mem k) (S:StI t s at_) (hA:Acy t s):GB t s=0:=A8y ht W.form (NK ht W.form S) hA W.coh
section
variable {V:At} (C:Aq V)
include C
theorem A2F (t:A1) (ht:A5 t) (l:List U8) (hl:l.length<=1000/\∀ x∈l,x.n < 256):VP V A1o [vT t,lU l] fun v=>∃ s mem k at_,v = .tu [Dy s,.b true,lI mem]/\WI t s mem k/\StI t s at_/\(∀ u∈at_,EY t u mem=none)/\Acy t s:=by
 rw [Ad C.c_z30.1 C.c_z30.2]
 simp only [A3n,go_sem,↓reduceIte]
 refine R3 C t ht (P:=Acy t) (Acu ht) (fun s n s' hf ha hw=>?_) l hl (fun s mem k at_ W S h hA=>?_)
 .obtain ⟨m,X⟩:=Am9 ht hf hw
  exact AdC ht hf X ha
 simp only [go_sem,↓reduceIte]
 exact ⟨s,mem,rfl,k,W,at_,S,h,hA⟩
end
end Go.AM
