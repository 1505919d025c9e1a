/-
  Own work, part of the proof of these laws: plain laws.
-/
import Derived.Test.YtpnaenhghnkggaaGreatDoorKL
set_option maxRecDepth 10000
set_option maxHeartbeats 64000000
set_option linter.unusedVariables false
set_option linter.unusedSimpArgs false
set_option linter.unusedSectionVars false
set_option linter.unnecessarySimpa false
open Int (toNat_natCast eq_ofNat_of_zero_le)
open List (length_map length_append getElem_mem length_set take_length filter_append range_succ mem_filter mem_cons_self length_filter_le mem_range)
open Nat (zero_le le_trans)
namespace Go.AM
open Go Go.Proofs
theorem Aa4 {a b:BitVec 64}:a ||| b=b↔∀ j,j < 64->a.getLsbD j=true->b.getLsbD j=true:=by
 constructor
 .intro h j _ ha
  rw [<- h,BitVec.getLsbD_or,ha,Bool.true_or]
 .intro h
  apply B4
  intro j hj
  rw [BitVec.getLsbD_or]
  cases c:a.getLsbD j with
  | false=>rw [Bool.false_or]
  | true=>rw [h j hj c];rfl
theorem SE:∀ {l k:List Int},l.Pairwise (· < ·)->k.Pairwise (· < ·)->(∀ x,x∈l↔x∈k)->l=k
 | [],[],_,_,_=>rfl
 | [],y::k,_,_,h=>by have:=(h y).2 (mem_cons_self ..);cases this
 | x::l,[],_,_,h=>by have:=(h x).1 (mem_cons_self ..);cases this
 | x::l,y::k,hl,hk,h=>by
  have hx:=List.pairwise_cons.1 hl
  have hy:=List.pairwise_cons.1 hk
  have e:x=y:=by
   rcases List.mem_cons.1 ((h x).1 (mem_cons_self ..)) with e | e
   .exact e
   .rcases List.mem_cons.1 ((h y).2 (mem_cons_self ..)) with e2 | e2
    .exact e2.symm
    .have h1:=hx.1 y e2
     have h2:=hy.1 x e
     omega
  subst e
  rw [SE hx.2 hy.2 fun z=>?_]
  constructor
  .intro hz
   rcases List.mem_cons.1 ((h z).1 (List.mem_cons_of_mem _ hz)) with e | e
   .have:=hx.1 z hz;omega
   .exact e
  .intro hz
   rcases List.mem_cons.1 ((h z).2 (List.mem_cons_of_mem _ hz)) with e | e
   .have:=hy.1 z hz;omega
   .exact e
theorem Mf (s:BitVec 64):(AF s).Pairwise (· < ·):=by
 unfold AF
 rw [List.pairwise_map]
 unfold Bw
 exact (List.Pairwise.filter _ List.pairwise_lt_range).imp fun h=>by omega
def nI (l:List Nat):List Int:=l.map fun (n:Nat)=>(n:Int)
theorem BH (l:List Nat):(nI l).length=l.length:=by simp [nI]
theorem VB (l:List Nat) (x:Nat):nI l++[(x:Int)]=nI (l++[x]):=by simp [nI]
theorem Aga (l:List Nat) (j x:Nat):(nI l).set j (x:Int)=nI (l.set j x):=by simp [nI]
theorem Ag9 {l:List Nat} {j:Nat} (h:j < l.length):(nI l).getD j 0=(l[j]:Nat):=by simp [nI,h]
def Pu (t:A1) (u:Nat) (k:Nat):List Nat:=(List.range k).filter fun i=>decide ((t.at i).up=u)
theorem Afk {t:A1} {u k:Nat} (h:decide ((t.at k).up=(u:Int))=true):Pu t u (k+1)=Pu t u k++[k]:=by
 rw [Pu,range_succ,filter_append];simp [h,Pu,of_decide_eq_true h]
theorem Afj {t:A1} {u k:Nat} (h:decide ((t.at k).up=(u:Int))=false):Pu t u (k+1)=Pu t u k:=by
 rw [Pu,range_succ,filter_append];simp [h,Pu,of_decide_eq_false h]
theorem A9p (t:A1) (u k:Nat):(Pu t u k).length<=k:=by
 refine le_trans (length_filter_le _ _) ?_;simp
theorem AaL {h:VH} {ty e b:Nat} {x y y':VV} (k:J5 h e y=J5 h e y'):Hf h ty e b x y=Hf h ty e b x y':=by unfold Hf;rw [k]
theorem AaS {h:VH} {ty e j:Nat} {ys:List (List VV)} (k:h[j]? = some (some (AL ty e ys))) (ho:D9 e ys=true):J5 h e (.sl j ys.length 0 ys.length)=J5 h e (.ls ys):=by
 simp only [J5,BW,k,DL,Nat.beq_refl,cond_true,A6k,Nat.zero_add,Nat.ble_eq,Nat.le_refl,List.drop_zero,take_length,ho]
 have:=@A7Y ty e ys
 cases hb:(Nat.beq (AL ty e ys).esz e || (AL ty e ys).nl) with
 | true =>
  have:Nat.ble ys.length ys.length=true:=by simp
  simp [this]
 | false =>
  exfalso
  simp only [Bool.or_eq_false_iff] at hb
  simp only [Bool.or_eq_true,decide_eq_true_eq] at this
  rcases this with h | h
  .rw [h,Nat.beq_refl] at hb;cases hb.1
  .rw [h] at hb;cases hb.2
section
variable {V:Ae} (C:Ai V) {Q:VV->Prop}
include C
theorem LF (t:A1) (ht:A5 t) (u:Nat) (hu:u < t.nodes.length) (hth:0<=(t.at u).thread):VP V Jv [vT t,.i .i64 u] Q↔Q (lI (nI (EI t u))):=by
 refine Ad ?_
 rw [Ab C.c_z171.1 C.c_z171.2]
 have h3:=ht.n64
 have h1:EI t u=Pu t u t.nodes.length:=by rw [EI,if_neg (by omega)];rfl
 rw [h1]
 have c0:decide ((u:Int) < 0)=false:=decide_eq_false (by omega)
 have c1:decide ((t.nodes.length:Int)<=u)=false:=decide_eq_false (by omega)
 have h0:decide (t.nodes.length<=u)=false:=decide_eq_false (by omega)
 have c2:decide ((t.at u).thread < 0)=false:=decide_eq_false (by omega)
 simp only [A1q,go_sem,↓reduceIte,c0,c1,h0,hu,A6 hu,c2]
 refine Al (by decide) t.nodes.length (by omega) (I:=fun k F h=>A2.tmp F 1 = .i .i64 u/\A2.tmp F 2 = .fp (eT t) 0/\∃ L,L=nI (Pu t u k)/\A2.tmp F 5 = .sl 0 L.length 0 L.length/\h=[some (AL Bg 1 (L.map eI))]) ?_ ?_ ?_ 0 _ _ (zero_le _) ?_ ?_
 .rintro k F h hk p6 ⟨p1,p2,L,hL,p5,rfl⟩
  simp only [go_sem,↓reduceIte,p1,p2,p5,p6]
  exact ⟨L,hL,rfl,rfl⟩
 .rintro k F h hk p6 ⟨p1,p2,L,hL,p5,rfl⟩
  have h2:=A9p t u k
  have b1:(L.length+1) * 8<=A9:=by rw [hL,BH];unfold A9;omega
  cases c3:decide ((t.at k).up=(u:Int)) with
  | false =>
   simp only [go_sem,↓reduceIte,p1,p2,p5,p6,hk,A6 hk,c3,A0]
   exact ⟨L,by rw [Afj c3];exact hL,rfl,rfl⟩
  | true =>
   simp only [go_sem,↓reduceIte,p1,p2,p5,p6,hk,A6 hk,c3,A0,b1,JH,length_append,length_map]
   exact ⟨L++[(k:Int)],by rw [Afk c3,hL,VB],by simp,rfl⟩
 .rintro F h ⟨p1,p2,L,hL,p5,rfl⟩
  subst hL
  simp only [go_sem,↓reduceIte,p1,p2,p5,length_map]
 .simp only [go_sem,↓reduceIte]
 .simp only [go_sem,↓reduceIte]
  exact ⟨[],rfl,rfl,rfl⟩
theorem GU (t:A1) (ht:A5 t) (u:Nat) (hu:u < t.nodes.length):VP V Wv [vT t,.i .i64 u] Q↔Q (.b (Dl t u)):=by
 refine Ad ?_
 rw [Ab C.c_z172.1 C.c_z172.2]
 have h2:=ht.n64
 have w1:IntKind.i64.wrap ((u:Int)+1)=((u+1:Nat):Int):=by rw [AR (by omega) (by omega)];omega
 unfold Dl
 by_cases c1:u+1 < t.nodes.length
 .have h0:decide (((u+1:Nat):Int) < (t.nodes.length:Int))=true:=decide_eq_true (by omega)
  cases c2:decide ((t.at (u+1)).up=(u:Int)) with
  | false=>simp only [Pi,go_sem,↓reduceIte,w1,c1,h0,A6 c1,c2]
  | true =>
   have h1:=of_decide_eq_true c2
   simp only [Pi,go_sem,↓reduceIte,w1,c1,h0,A6 c1,c2]
 .have h0:decide (((u+1:Nat):Int) < (t.nodes.length:Int))=false:=decide_eq_false (by omega)
  simp only [Pi,go_sem,↓reduceIte,w1,c1,h0]
theorem R5 (t:A1) (ht:A5 t) (s:A8) (hs:KZ s) (hz:s.has.length < 1000/\s.jf.length < 1000/\∀ l∈s.mo,∀ c∈l,c.length < 1000) {n:Nat} (hn:n < t.nodes.length) {s':A8} (hw:Yc t s n s') (hml:s.mo.length=t.locs.length)
  (hne:∀ loc,loc < s.mo.length->0 < (s.mo.getD loc []).length) (h1:∀ loc,loc < s.mo.length->∀ c∈s.mo.getD loc [],∃ w:Int,c=[w]):VP V VJ [vT t,LX s,.i .i64 n] Q↔Q (LX s'):=by
 refine Ad ?_
 rw [Ab C.c_z111.1 C.c_z111.2]
 cases hw with
 | bar hk e =>
  have hb:=fun (Q:VV->Prop)=>ZF C t ht s hs n (Q:=Q)
  rw [e,Mv] at hb
  simp only [Pc,go_sem,↓reduceIte,hn,A6 hn,hk,hb,A0]
 | read loc hk hloc e =>
  have hl:=ht.wloc hn (.inl hk)
  have h0:loc < s.mo.length:=by omega
  have gL:=Cx h0
  have hm:=hs.mi' loc
  have hp:=hne loc h0
  obtain ⟨w,hw⟩:=h1 loc h0 _ (Af (d:=[]) (show (s.mo.getD loc []).length - 1 < (s.mo.getD loc []).length by omega))
  have h2:C8 s loc=w:=by rw [C8,hw];rfl
  have gI:=Ep (xs:=s.mo.getD loc []) (show (s.mo.getD loc []).length - 1 < (s.mo.getD loc []).length by omega)
  rw [hw] at gI
  rw [h2] at e
  obtain ⟨L,hL⟩:∃ L,L=s.mo.getD loc []:=⟨_,rfl⟩
  rw [<- hL] at gL gI hm hp
  have w1:IntKind.i64.wrap ((L.length:Int) - 1)=((L.length - 1:Nat):Int):=by rw [AR (by omega) (by omega)];omega
  have h3:L.length - 1 < L.length:=by omega
  have hr:=fun (Q:VV->Prop)=>Xy C t ht s hs ⟨hz.1,hz.2.1⟩ n w (Q:=Q)
  rw [e,Mv] at hr
  simp only [Pc,go_sem,↓reduceIte,hn,A6 hn,hk,hloc,h0,gL,gI,w1,h3,hr,A0]
 | write loc hk hloc e =>
  have hl:=ht.wloc hn (.inr hk)
  have h0:loc < s.mo.length:=by omega
  have gL:=Cx h0
  have hm:=hs.mi' loc
  obtain ⟨L,hL⟩:∃ L,L=s.mo.getD loc []:=⟨_,rfl⟩
  rw [<- hL] at gL hm e
  have hr:=fun (Q:VV->Prop)=>Rg C t ht s hs n (L.length:Nat) (Q:=Q)
  rw [e,Mv] at hr
  simp only [Pc,go_sem,↓reduceIte,hn,A6 hn,hk,hloc,h0,gL,hr,A0]
end
def KW:Option (Nat×List Int)->VV
 | none=>.tu [.i .i64 0,.ls [],.b false]
 | some (to,out)=>.tu [.i .i64 (to:Nat),lI out,.b true]
theorem Aar (l:List Int) (k:Nat) (v:Int):(l.map eI).set k [.i .i64 v]=(l.set k v).map eI:=by rw [List.map_set]
theorem A3X {l:List Nat} {p:Nat->Bool} {k:Nat} (hk:k < l.length) (h:∀ j,j < k->∀ hj:j < l.length,p l[j]=false) (hp:p l[k]=true):l.find? p=some l[k]:=by
 rw [List.find?_eq_some_iff_getElem]
 exact ⟨hp,k,hk,rfl,fun j hj=>by rw [h j hj (by omega)];rfl⟩
theorem A3Y {l:List Nat} {p:Nat->Bool} (h:∀ j,j < l.length->∀ hj:j < l.length,p l[j]=false):l.find? p=none:=by
 rw [List.find?_eq_none]
 intro x hx
 obtain ⟨j,hj,rfl⟩:=List.getElem_of_mem hx
 rw [h j hj hj];decide
section
variable {V:Ae} (C:Ai V) {Q:VV->VH->Prop}
include C
theorem Xw (t:A1) (ht:A5 t) {u:Nat} (hu:u < t.nodes.length) (hth:0<=(t.at u).thread) (mem:List Int) (hm:mem.length=t.locs.length) (x0 x1 x2 x3 x4 x5:Option VO) :
  GF V HK [vT t,.i .i64 u,lI mem] [x0,x1,x2,x3,x4,x5] Q↔Q (KW (Ez t u mem)) [x0,x1,x2,x3,x4,x5]:=by
 refine G9 ?_
 rw [CF C.h_z110]
 have hq:=ht.n64
 have l4:=ht.l4
 unfold Ez
 cases cf:(t.at u).fin with
 | true =>
  simp only [Jm,go_sem,↓reduceIte,hu,A6 hu,cf]
  rfl
 | false =>
 simp only [Jm,go_sem,↓reduceIte,hu,A6 hu,cf,LF C t ht u hu hth]
 have hn:∀ i∈EI t u,i < t.nodes.length/\(t.at i).up=(u:Int):=by
  intro i hi
  unfold EI at hi
  rw [if_neg (by omega)] at hi
  simpa only [mem_filter,mem_range,decide_eq_true_eq] using hi
 have hv:(EI t u).length<=64:=by
  unfold EI
  rw [if_neg (by omega)]
  refine le_trans (length_filter_le _ _) ?_
  simpa using hq
 obtain ⟨K,hK⟩:∃ K,K=EI t u:=⟨_,rfl⟩
 rw [<- hK] at hn hv ⊢
 refine Al (by decide) K.length (by omega) (I:=fun k F h=>(∀ j,j < k->∀ hj:j < K.length,ER t mem K[j]=false)/\A2.tmp F 2=lI mem/\A2.tmp F 3 = .fp (eT t) 0/\A2.tmp F 9=lI (nI K)/\h=[x0,x1,x2,x3,x4,x5]) ?_ ?_ ?_ 0 _ _ (zero_le _) ?_ ?_
 .rintro k F h hk h9 ⟨hj,p2,p3,p9,rfl⟩
  simp only [go_sem,↓reduceIte,p2,p3,p9,h9,BH]
  exact hj
 .rintro k F h hk h9 ⟨hj,p2,p3,p9,rfl⟩
  obtain ⟨h3,hw⟩:=hn K[k] (getElem_mem hk)
  have gK:(nI K)[k]? = some ((K[k]:Nat):Int):=by simp [nI,hk]
  have h8:ER t mem K[k]=false->∀ j,j < k+1->∀ hj:j < K.length,ER t mem K[j]=false:=fun hc j h1 h2=>by
   by_cases c:j=k
   .subst c;exact hc
   .exact hj j (by omega) h2
  have h4:ER t mem K[k]=true->K.find? (ER t mem)=some K[k]:=fun hc=>A3X hk hj hc
  have he:mem.length * 8<=A9:=by unfold A9;omega
  have hp:∀ n v,List.take mem.length (mem.set n v)=mem.set n v:=fun n v=>List.take_of_length_le (by rw [length_set];exact Nat.le_refl _)
  generalize K[k]=i at h3 hw gK h8 h4
  cases c2:decide ((t.at i).kind=2) with
  | true =>
   have hd:=of_decide_eq_true c2
   have hl:=ht.wloc h3 (.inl hd)
   obtain ⟨loc,h6⟩:=eq_ofNat_of_zero_le hl.1
   have hf:loc < mem.length:=by omega
   have gm:=Ar hf
   cases cv:decide ((t.at i).val=mem.getD loc 0) with
   | false =>
    have hc:ER t mem i=false:=by simp only [ER,c2,h6,toNat_natCast,cv];rfl
    simp only [go_sem,↓reduceIte,p2,p3,p9,h9,hk,BH,gK,h3,A6 h3,c2,h6,hf,gm,cv,A0]
    exact h8 hc
   | true =>
    have hc:ER t mem i=true:=by simp only [ER,cv,h6,toNat_natCast,Bool.or_true]
    have hb:=h4 hc
    cases cr:Dl t i with
    | false =>
     have ha:QF t i=i:=by rw [QF,if_neg (by rw [cr];simp)]
     have ho:Gn t mem i=mem:=by rw [Gn,if_neg (by omega)]
     have c3:decide ((t.at i).kind=3)=false:=decide_eq_false (by omega)
     simp only [go_sem,↓reduceIte,p2,p3,p9,h9,hk,BH,gK,h3,A6 h3,c2,h6,hf,gm,cv,GU C t ht i h3,cr,c3,A0,he]
     simp only [hb,Option.map_some,ha,ho,KW]
     all_goals trivial
    | true =>
     have hr:=cr
     simp only [Dl,Bool.and_eq_true,decide_eq_true_eq] at hr
     obtain ⟨⟨r1,r2⟩,r3⟩:=hr
     have k3:=ht.rmw3 r1 (by omega) r3
     have c3:decide ((t.at (i+1)).kind=3)=true:=decide_eq_true k3
     have hh:=ht.wloc r1 (.inr k3)
     obtain ⟨h7,h0⟩:=eq_ofNat_of_zero_le hh.1
     have h5:h7 < mem.length:=by omega
     have hg:=Ar h5
     have ha:QF t i=i+1:=by rw [QF,if_pos ⟨hd,cr⟩]
     have ho:Gn t mem (i+1)=mem.set h7 (t.at (i+1)).val:=by rw [Gn,if_pos k3,h0,toNat_natCast]
     have w1:IntKind.i64.wrap ((i:Int)+1)=((i+1:Nat):Int):=by rw [AR (by omega) (by omega)];omega
     simp only [go_sem,↓reduceIte,p2,p3,p9,h9,hk,BH,gK,h3,A6 h3,c2,h6,hf,gm,cv,GU C t ht i h3,cr,w1,r1,A6 r1,c3,h0,h5,hg,A0,he,Aar,length_map,length_set,hp]
     simp only [hb,Option.map_some,ha,ho,KW]
     all_goals trivial
  | false =>
   have hd:=of_decide_eq_false c2
   have hc:ER t mem i=true:=by simp only [ER,c2];rfl
   have hb:=h4 hc
   have ha:QF t i=i:=by rw [QF,if_neg (fun h=>hd h.1)]
   cases c3:decide ((t.at i).kind=3) with
   | false =>
    have ho:Gn t mem i=mem:=by rw [Gn,if_neg (of_decide_eq_false c3)]
    simp only [go_sem,↓reduceIte,p2,p3,p9,h9,hk,BH,gK,h3,A6 h3,c2,c3,A0,he]
    simp only [hb,Option.map_some,ha,ho,KW]
    all_goals trivial
   | true =>
    have k3:=of_decide_eq_true c3
    have hh:=ht.wloc h3 (.inr k3)
    obtain ⟨h7,h0⟩:=eq_ofNat_of_zero_le hh.1
    have h5:h7 < mem.length:=by omega
    have hg:=Ar h5
    have ho:Gn t mem i=mem.set h7 (t.at i).val:=by rw [Gn,if_pos k3,h0,toNat_natCast]
    simp only [go_sem,↓reduceIte,p2,p3,p9,h9,hk,BH,gK,h3,A6 h3,c2,c3,h0,h5,hg,A0,he,Aar,length_map,length_set,hp]
    simp only [hb,Option.map_some,ha,ho,KW]
    all_goals trivial
 .rintro F h ⟨hj,p2,p3,p9,rfl⟩
  have hx:=A3Y hj
  simp only [go_sem,↓reduceIte,p2,p3,p9]
  rw [hx]
  rfl
 .simp only [go_sem,↓reduceIte]
 .simp only [go_sem,↓reduceIte]
  exact fun j hj=>absurd hj (Nat.not_lt_zero _)
theorem Xx (t:A1) (ht:A5 t) {u:Nat} (hu:u < t.nodes.length) (hth:0<=(t.at u).thread) (mem:List Int) (hm:mem.length=t.locs.length) (x0 x1 x2 x4 x5:Option VO) :
  GF V HK [vT t,.i .i64 u,.sl 3 mem.length 0 mem.length] [x0,x1,x2,some (AL Bg 1 (mem.map eI)),x4,x5] Q↔Q (KW (Ez t u mem)) [x0,x1,x2,some (AL Bg 1 (mem.map eI)),x4,x5]:=by
 refine G9 ?_
 rw [CF C.h_z110]
 have hx:=ht.n64
 have l4:=ht.l4
 unfold Ez
 cases cf:(t.at u).fin with
 | true =>
  simp only [Jm,go_sem,↓reduceIte,hu,A6 hu,cf]
  rfl
 | false =>
 simp only [Jm,go_sem,↓reduceIte,hu,A6 hu,cf,LF C t ht u hu hth]
 have hv:∀ i∈EI t u,i < t.nodes.length/\(t.at i).up=(u:Int):=by
  intro i hi
  unfold EI at hi
  rw [if_neg (by omega)] at hi
  simpa only [mem_filter,mem_range,decide_eq_true_eq] using hi
 have hy:(EI t u).length<=64:=by
  unfold EI
  rw [if_neg (by omega)]
  refine le_trans (length_filter_le _ _) ?_
  simpa using hx
 obtain ⟨K,hK⟩:∃ K,K=EI t u:=⟨_,rfl⟩
 rw [<- hK] at hv hy ⊢
 refine Al (by decide) K.length (by omega) (I:=fun k F h=>(∀ j,j < k->∀ hj:j < K.length,ER t mem K[j]=false)/\A2.tmp F 2 = .sl 3 mem.length 0 mem.length/\A2.tmp F 3 = .fp (eT t) 0/\A2.tmp F 9=lI (nI K)/\h=[x0,x1,x2,some (AL Bg 1 (mem.map eI)),x4,x5]) ?_ ?_ ?_ 0 _ _ (zero_le _) ?_ ?_
 .rintro k F h hk ha ⟨hj,p2,p3,p9,rfl⟩
  simp only [go_sem,↓reduceIte,p2,p3,p9,ha,BH]
  exact hj
 .rintro k F h hk ha ⟨hj,p2,p3,p9,rfl⟩
  obtain ⟨h3,hz⟩:=hv K[k] (getElem_mem hk)
  have gK:(nI K)[k]? = some ((K[k]:Nat):Int):=by simp [nI,hk]
  have h9:ER t mem K[k]=false->∀ j,j < k+1->∀ hj:j < K.length,ER t mem K[j]=false:=fun hc j h1 h2=>by
   by_cases c:j=k
   .subst c;exact hc
   .exact hj j (by omega) h2
  have h4:ER t mem K[k]=true->K.find? (ER t mem)=some K[k]:=fun hc=>A3X hk hj hc
  have h7:∀ (h:VH) (x:VV) (b:Nat),h[3]? = some (some (AL Bg 1 (mem.map eI)))->Hf h Bg 1 b x (.sl 3 mem.length 0 mem.length)=Hf h Bg 1 b x (.ls (mem.map eI)):=fun h x b hh=>by
   have:=AaS (h:=h) hh (A2P (fun _=>rfl))
   rw [length_map] at this
   exact AaL this
  have hf:mem.length * 8<=A9:=by unfold A9;omega
  have hw:∀ n v,List.take mem.length (mem.set n v)=mem.set n v:=fun n v=>List.take_of_length_le (by rw [length_set];exact Nat.le_refl _)
  generalize K[k]=i at h3 hz gK h9 h4
  cases c2:decide ((t.at i).kind=2) with
  | true =>
   have he:=of_decide_eq_true c2
   have hl:=ht.wloc h3 (.inl he)
   obtain ⟨loc,h6⟩:=eq_ofNat_of_zero_le hl.1
   have hg:loc < mem.length:=by omega
   have gm:=Ar hg
   have hp:=Hw (ty:=Bg) (e:=1) (rows:=mem.map eI) (by rw [length_map];omega)
   cases cv:decide ((t.at i).val=mem.getD loc 0) with
   | false =>
    have hc:ER t mem i=false:=by simp only [ER,c2,h6,toNat_natCast,cv];rfl
    simp only [go_sem,↓reduceIte,p2,p3,p9,ha,hk,BH,gK,h3,A6 h3,c2,h6,hg,gm,hp,h7,cv,A0]
    exact h9 hc
   | true =>
    have hc:ER t mem i=true:=by simp only [ER,cv,h6,toNat_natCast,Bool.or_true]
    have hd:=h4 hc
    cases cr:Dl t i with
    | false =>
     have hb:QF t i=i:=by rw [QF,if_neg (by rw [cr];simp)]
     have ho:Gn t mem i=mem:=by rw [Gn,if_neg (by omega)]
     have c3:decide ((t.at i).kind=3)=false:=decide_eq_false (by omega)
     simp only [go_sem,↓reduceIte,p2,p3,p9,ha,hk,BH,gK,h3,A6 h3,c2,h6,hg,gm,hp,h7,cv,GU C t ht i h3,cr,c3,A0,hf]
     simp only [hd,Option.map_some,hb,ho,KW]
     all_goals trivial
    | true =>
     have hr:=cr
     simp only [Dl,Bool.and_eq_true,decide_eq_true_eq] at hr
     obtain ⟨⟨r1,r2⟩,r3⟩:=hr
     have k3:=ht.rmw3 r1 (by omega) r3
     have c3:decide ((t.at (i+1)).kind=3)=true:=decide_eq_true k3
     have hq:=ht.wloc r1 (.inr k3)
     obtain ⟨h8,h0⟩:=eq_ofNat_of_zero_le hq.1
     have h5:h8 < mem.length:=by omega
     have hn:=Ar h5
     have hb:QF t i=i+1:=by rw [QF,if_pos ⟨he,cr⟩]
     have ho:Gn t mem (i+1)=mem.set h8 (t.at (i+1)).val:=by rw [Gn,if_pos k3,h0,toNat_natCast]
     have w1:IntKind.i64.wrap ((i:Int)+1)=((i+1:Nat):Int):=by rw [AR (by omega) (by omega)];omega
     simp only [go_sem,↓reduceIte,p2,p3,p9,ha,hk,BH,gK,h3,A6 h3,c2,h6,hg,gm,hp,h7,cv,GU C t ht i h3,cr,w1,r1,A6 r1,c3,h0,h5,hn,A0,hf,Aar,length_map,length_set,hw]
     simp only [hd,Option.map_some,hb,ho,KW]
     all_goals trivial
  | false =>
   have he:=of_decide_eq_false c2
   have hc:ER t mem i=true:=by simp only [ER,c2];rfl
   have hd:=h4 hc
   have hb:QF t i=i:=by rw [QF,if_neg (fun h=>he h.1)]
   cases c3:decide ((t.at i).kind=3) with
   | false =>
    have ho:Gn t mem i=mem:=by rw [Gn,if_neg (of_decide_eq_false c3)]
    simp only [go_sem,↓reduceIte,p2,p3,p9,ha,hk,BH,gK,h3,A6 h3,c2,h7,c3,A0,hf]
    simp only [hd,Option.map_some,hb,ho,KW]
    all_goals trivial
   | true =>
    have k3:=of_decide_eq_true c3
    have hq:=ht.wloc h3 (.inr k3)
    obtain ⟨h8,h0⟩:=eq_ofNat_of_zero_le hq.1
    have h5:h8 < mem.length:=by omega
    have hn:=Ar h5
    have ho:Gn t mem i=mem.set h8 (t.at i).val:=by rw [Gn,if_pos k3,h0,toNat_natCast]
    simp only [go_sem,↓reduceIte,p2,p3,p9,ha,hk,BH,gK,h3,A6 h3,c2,h7,c3,h0,h5,hn,A0,hf,Aar,length_map,length_set,hw]
    simp only [hd,Option.map_some,hb,ho,KW]
    all_goals trivial
 .rintro F h ⟨hj,p2,p3,p9,rfl⟩
  have q0:=A3Y hj
  simp only [go_sem,↓reduceIte,p2,p3,p9]
  rw [q0]
  rfl
 .simp only [go_sem,↓reduceIte]
 .simp only [go_sem,↓reduceIte]
  exact fun j hj=>absurd hj (Nat.not_lt_zero _)
end
theorem Ais {t:A1} {k:Nat} (h1:decide ((t.at k).thread < 0)=false) (h2:decide ((t.at k).up < 0)=true):Rw t (k+1)=Rw t k++[k]:=by
 rw [Rw,range_succ,filter_append];simp [h1,h2,Rw,of_decide_eq_false h1,of_decide_eq_true h2]
theorem AeH {t:A1} {k:Nat} (h1:decide ((t.at k).thread < 0)=true):Rw t (k+1)=Rw t k:=by
 rw [Rw,range_succ,filter_append];simp [h1,Rw,of_decide_eq_true h1]
theorem AeI {t:A1} {k:Nat} (h2:decide ((t.at k).up < 0)=false):Rw t (k+1)=Rw t k:=by
 rw [Rw,range_succ,filter_append];simp [h2,Rw,of_decide_eq_false h2]
theorem Ag6 {t:A1} {k:Nat} (h1:decide ((t.at k).thread < 0)=true):KI t (k+1)=KI t k++[(t.at k).val]:=by
 rw [KI,range_succ,filter_append];simp [h1,KI,of_decide_eq_true h1]
theorem A9F {t:A1} {k:Nat} (h1:decide ((t.at k).thread < 0)=false):KI t (k+1)=KI t k:=by
 rw [KI,range_succ,filter_append];simp [h1,KI,of_decide_eq_false h1]
theorem AbC (t:A1) (k:Nat):(Rw t k).length<=k:=by
 refine le_trans (length_filter_le _ _) ?_;simp
theorem A9G (t:A1) (k:Nat):(KI t k).length<=k:=by
 rw [KI,length_map];refine le_trans (length_filter_le _ _) ?_;simp
def KA (t:A1) (at_:List Nat) (mem:List Int) (j:Nat):List Nat:=(List.range j).filter fun i=>(Ez t (at_.getD i 0) mem).isSome
theorem AeP {t:A1} {at_:List Nat} {mem:List Int} {j:Nat} {x:Nat×List Int} (h:Ez t (at_.getD j 0) mem=some x):KA t at_ mem (j+1)=KA t at_ mem j++[j]:=by
 rw [KA,range_succ,filter_append,List.filter_cons_of_pos (by rw [h];rfl)];rfl
theorem AeO {t:A1} {at_:List Nat} {mem:List Int} {j:Nat} (h:Ez t (at_.getD j 0) mem=none):KA t at_ mem (j+1)=KA t at_ mem j:=by
 rw [KA,range_succ,filter_append,List.filter_cons_of_neg (by rw [h];decide)];simp [KA]
theorem A8h (t:A1) (at_:List Nat) (mem:List Int) (k:Nat):(KA t at_ mem k).length<=k:=by
 refine le_trans (length_filter_le _ _) ?_;simp
def b6:Option VO:=some ⟨BE,0,0,false,[[.nl,.nl,.nl]]⟩
def b9 (s:A8):Option VO:=some ⟨BE,0,0,false,[XV s]⟩
def atO (l:List Nat):Option VO:=some (AL Bg 1 ((nI l).map eI))
def Abi (mem:List Int) (mv:VV) (x3:Option VO):Prop:=mv=lI mem\/(mv = .sl 3 mem.length 0 mem.length/\x3=some (AL Bg 1 (mem.map eI)))
structure RoI (P:A8->Prop) (t:A1) (l:List U8) (r:Nat) (F:A2) (h:VH) (s:A8) (at_:List Nat) (mem:List Int) (k a:Nat) (mv:VV) (x3:Option VO):Prop where
 wi:WI t s mem k
 si:StI t s at_
 rk:r<=k
 ha:a<=l.length
 mv_:Abi mem mv x3
 p3:A2.tmp F 3 = .fp (eT t) 0
 p2:A2.tmp F 2 = .i .i64 70
 p6:A2.tmp F 6 = .p 0 0 0 0
 p9:A2.tmp F 9 = .p 1 0 0 0
 p10:A2.tmp F 10 = .sl 2 at_.length 0 at_.length
 p11:A2.tmp F 11=mv
 p13:A2.tmp F 13 = .p 4 0 0 0
 hh:h=[b6,b9 s,atO at_,x3,MO l a]
 pp:P s
section
variable {V:Ae} (C:Ai V)
include C
theorem Xv (t:A1) (ht:A5 t) {u:Nat} (hu:u < t.nodes.length) (hth:0<=(t.at u).thread) {mem:List Int} (hm:mem.length=t.locs.length) {mv:VV} {x3:Option VO} (k:Abi mem mv x3) (x0 x1 x2 x4 x5:Option VO) {Q:VV->VH->Prop} :
  GF V HK [vT t,.i .i64 u,mv] [x0,x1,x2,x3,x4,x5] Q↔Q (KW (Ez t u mem)) [x0,x1,x2,x3,x4,x5]:=by
 rcases k with rfl | ⟨rfl,rfl⟩
 .exact Xw C t ht hu hth mem hm x0 x1 x2 x3 x4 x5
 .exact Xx C t ht hu hth mem hm x0 x1 x2 x4 x5
omit C in
theorem Abi.cl {mem:List Int} {mv:VV} {x3:Option VO} (k:Abi mem mv x3) {n:Nat} (hn:3 < n):Lh n mv=mv:=by
 rcases k with rfl | ⟨rfl,rfl⟩
 .rfl
 .show (bif Nat.blt 3 n then _ else _)=_
  rw [show Nat.blt 3 n=true from by simp only [Nat.blt_eq];exact hn];rfl
theorem Z9 (l:List U8) (x0 x1 x2 x3:Option VO) {Q:VV->VH->Prop}:LW V MW [lU l] [x0,x1,x2,x3] Q↔Q (.p 4 0 0 0) [x0,x1,x2,x3,MO l 0]:=by
 refine NX ?_
 rw [H6 C.h_z27]
 simp only [RM,go_sem,↓reduceIte]
 rfl
theorem A9H (l:List U8) (hl:l.length<=1000/\∀ x∈l,x.n < 256) (a:Nat) (ha:a<=l.length) (n:Int) (x0 x1 x2 x3 x5:Option VO) :
  GF V Q8 [.p 4 0 0 0,.i .i64 n] [x0,x1,x2,x3,MO l a,x5] fun v h=>∃ k:Nat,v = .i .i64 k/\(1<=n->(k:Int) < n)/\∃ a',a'<=l.length/\h=[x0,x1,x2,x3,MO l a',x5]:=by
 rw [CF C.h_z75]
 by_cases c1:l.length<=a
 .simp only [MN,go_sem,↓reduceIte,c1]
  exact ⟨0,rfl,fun h=>by omega,a,ha,rfl⟩
 .by_cases c2:n < 1
  .simp only [MN,go_sem,↓reduceIte,c1,c2]
   exact ⟨0,rfl,fun h=>by omega,a,ha,rfl⟩
  .have h1:a < l.length:=by omega
   have h0:l[a]? = some l[a]:=List.getElem?_eq_getElem h1
   have hb:=hl.2 _ (getElem_mem h1)
   have w0:IntKind.i64.wrap ((l[a].n:Nat):Int)=(l[a].n:Nat):=AR (by omega) (by omega)
   have w3:((l[a].n:Nat):Int).tmod n=(((l[a].n:Nat):Int) % n):=Int.tmod_eq_emod_of_nonneg (by omega)
   have w1:=EN (show a < 9223372036854775807 by omega)
   have w2:IntKind.i64.wrap (((a+1:Nat):Int) - 1)=(a:Int):=by rw [AR (by omega) (by omega)];omega
   simp only [MN,go_sem,↓reduceIte,c1,c2,h0,w1,w2,Gv (show n≠0 by omega),w0,w3]
   have m1:=Int.emod_nonneg ((l[a].n:Nat):Int) (show n≠0 by omega)
   have m2:=Int.emod_lt_of_pos ((l[a].n:Nat):Int) (show 0 < n by omega)
   exact ⟨(((l[a].n:Nat):Int) % n).toNat,by omega,fun h=>by omega,a+1,by omega,rfl⟩
theorem Vq (t:A1) (ht:A5 t) {P:A8->Prop} (P0:P (AP t)) (P1:∀ s s1 s2 (u to:Nat) mem out,AX t s->(u:Int)∈s.has->P s->Ez t u mem=some (to,out)->(if (t.at to).up≠(u:Int) then (∃ m:Nat,(t.at to).up=m/\m < t.nodes.length/\Yc t s m s1) else s1=s)->AX t s1->Yc t s1 to s2->P s2) (l:List U8) (hl:l.length<=1000/\∀ x∈l,x.n < 256) {Q:VV->Prop} (hq:∀ s mem k at_,WI t s mem k->StI t s at_->(∀ u∈at_,Ez t u mem=none)->P s->Q (.tu [LX s,.b true,lI mem])):VP V Zn [vT t,lU l,.i .i64 70] Q:=by
 rw [Ab C.c_z58.1 C.c_z58.2]
 have qk:=ht.n64
 simp only [A8W,go_sem,↓reduceIte,Rc C t ht]
 refine Al (by decide) t.nodes.length (by omega) (I:=fun k F h=>A2.tmp F 1=lU l/\A2.tmp F 2 = .i .i64 70/\A2.tmp F 3 = .fp (eT t) 0/\A2.tmp F 6 = .p 0 0 0 0/\A2.tmp F 9 = .p 1 0 0 0/\∃ L,L=nI (Rw t k)/\∃ M,M=KI t k/\A2.tmp F 10 = .sl 2 L.length 0 L.length/\A2.tmp F 11 = .sl 3 M.length 0 M.length/\h=[b6,b9 (AP t),some (AL Bg 1 (L.map eI)),some (AL Bg 1 (M.map eI))]) ?_ ?_ ?_ 0 _ _ (zero_le _) ?_ ?_
 .rintro k F h hk hx ⟨p1,p2,p3,p6,p9,L,hL,M,hM,h0,h3,rfl⟩
  simp only [go_sem,↓reduceIte,p1,p2,p3,p6,p9,h0,h3,hx]
  exact ⟨L,hL,M,hM,rfl,rfl,rfl⟩
 .rintro k F h hk hx ⟨p1,p2,p3,p6,p9,L,hL,M,hM,h0,h3,rfl⟩
  have h1:=AbC t k
  have h2:=A9G t k
  have q1:(L.length+1) * 8<=A9:=by rw [hL,BH];unfold A9;omega
  have q2:(M.length+1) * 8<=A9:=by rw [hM];unfold A9;omega
  cases c1:decide ((t.at k).thread < 0) with
  | true =>
   simp only [go_sem,↓reduceIte,p1,p2,p3,p6,p9,h0,h3,hx,hk,A6 hk,c1,A0,b6,b9,q2,JH,length_append,length_map]
   exact ⟨L,by rw [AeH c1];exact hL,M++[(t.at k).val],by rw [Ag6 c1,hM],by simp,by simp,rfl⟩
  | false =>
  cases c2:decide ((t.at k).up < 0) with
  | true =>
   simp only [go_sem,↓reduceIte,p1,p2,p3,p6,p9,h0,h3,hx,hk,A6 hk,c1,c2,A0,b6,b9,q1,JH,length_append,length_map]
   exact ⟨L++[(k:Int)],by rw [Ais c1 c2,hL,VB],M,by rw [A9F c1];exact hM,by simp,by simp,rfl⟩
  | false =>
   simp only [go_sem,↓reduceIte,p1,p2,p3,p6,p9,h0,h3,hx,hk,A6 hk,c1,c2,A0,b6,b9]
   exact ⟨L,by rw [AeI c2];exact hL,M,by rw [A9F c1];exact hM,rfl,rfl,rfl⟩
 .rintro F h ⟨p1,p2,p3,p6,p9,L,hL,M,hM,h0,h3,rfl⟩
  simp only [go_sem,↓reduceIte,p1,p2,p3,p6,p9,h0,h3,Z9 C l]
  refine Al (by decide) 70 (by omega) (I:=fun r F h=>∃ s at_ mem k a mv x3,RoI P t l r F h s at_ mem k a mv x3) ?_ ?_ ?_ 0 _ _ (zero_le _) ?_ ?_
  .rintro r F h hr h5 ⟨s,at_,mem,k,a,mv,x3,R⟩
   have hd:decide ((r:Int) < 70)=decide (r < 70):=decide_eq_decide.2 (by omega)
   obtain ⟨W,S,rk,ha,h8,p3,p2,p6,p9,h0,h3,h4,rfl,hP⟩:=R
   simp only [go_sem,↓reduceIte,p2,p3,p6,p9,h0,h3,h4,h5,hd]
   refine ⟨s,at_,mem,k,a,mv,x3,W,S,rk,ha,h8,?_,?_,?_,?_,?_,?_,?_,rfl,hP⟩<;>simp only [go_sem,↓reduceIte,p2,p3,p6,p9,h0,h3,h4]
  .rintro r F h hr h5 ⟨s,at_,mem,k,a,mv,x3,R⟩
   obtain ⟨W,S,rk,ha,h8,p3,p2,p6,p9,h0,h3,h4,rfl,hP⟩:=R
   have ql:at_.length<=64:=by
    have hd:(at_.map fun (i:Nat)=>(i:Int)).Nodup:=by
     rw [List.nodup_iff_pairwise_ne,List.pairwise_map]
     exact S.pw.imp fun h e=>h (by rw [show _=_ from Int.ofNat.inj e])
    have:=GQ _ s.has hd (fun y hy=>by
     obtain ⟨m,hm,rfl⟩:=List.mem_map.1 hy
     exact (S.has m hm).1)
    rw [length_map] at this
    have:=W.form.len
    omega
   have q0:=h8.cl (n:=6) (by decide)
   have he:=h8.cl (n:=5) (by decide)
   have qc:∀ j,j < at_.length->at_.getD j 0 < t.nodes.length/\0<=(t.at (at_.getD j 0)).thread:=fun j hj=>by
    have hm:=Af (d:=0) hj
    obtain ⟨h1,h2⟩:=S.has _ hm
    obtain ⟨m,e,hm⟩:=Aa (W.gr.ok _ h1)
    exact ⟨by omega,h2⟩
   have qe:=fun (j:Nat) (hj:j < at_.length) (x0 x1 x2 x4 x5:Option VO) (Q:VV->VH->Prop)=>Xv C t ht (qc j hj).1 (qc j hj).2 W.ml h8 x0 x1 x2 x4 x5 (Q:=Q)
   simp only [go_sem,↓reduceIte,p2,p3,p6,p9,h0,h3,h4,h5,A0]
   refine Al (by decide) at_.length (by omega) (I:=fun j F h=>A2.tmp F 2 = .i .i64 70/\A2.tmp F 3 = .fp (eT t) 0/\A2.tmp F 6 = .p 0 0 0 0/\A2.tmp F 9 = .p 1 0 0 0/\A2.tmp F 10 = .sl 2 at_.length 0 at_.length/\A2.tmp F 11=mv/\A2.tmp F 13 = .p 4 0 0 0/\A2.tmp F 14 = .i .i64 r/\∃ L,L=nI (KA t at_ mem j)/\A2.tmp F 15 = .sl 5 L.length 0 L.length/\h=[b6,b9 s,atO at_,x3,MO l a,some (AL Bg 1 (L.map eI))]) ?_ ?_ ?_ 0 _ _ (zero_le _) ?_ ?_
   .rintro j F h hj q4 ⟨p2,p3,p6,p9,h0,h3,h4,h5,L,hL,h6,rfl⟩
    simp only [go_sem,↓reduceIte,p2,p3,p6,p9,h0,h3,h4,h5,h6,q4]
    exact ⟨L,hL,rfl,rfl⟩
   .rintro j F h hj q4 ⟨p2,p3,p6,p9,h0,h3,h4,h5,L,hL,h6,rfl⟩
    have h9:(nI at_)[j]? = some ((at_.getD j 0:Nat):Int):=by simp [nI,hj]
    have hs:=qe j hj b6 (b9 s) (atO at_) (MO l a) (some (AL Bg 1 (L.map eI)))
    have qm:=A8h t at_ mem j
    have q1:(L.length+1) * 8<=A9:=by rw [hL,BH];unfold A9;omega
    have q6:atO at_=some ⟨Bg,1,at_.length,false,(nI at_).map eI⟩:=by rw [atO,JN (by rw [length_map,BH];omega),length_map,BH]
    rw [q6] at hs ⊢
    cases e:Ez t (at_.getD j 0) mem with
    | none =>
     rw [e] at hs
     simp only [go_sem,↓reduceIte,p2,p3,p6,p9,h0,h3,h4,h5,h6,q4,h9,hs,hj,BH,KW,q0,A0,length_map]
     exact ⟨L,by rw [AeO e];exact hL,rfl,rfl⟩
    | some x =>
     obtain ⟨to,out⟩:=x
     rw [e] at hs
     simp only [go_sem,↓reduceIte,p2,p3,p6,p9,h0,h3,h4,h5,h6,q4,h9,hs,hj,BH,KW,q0,A0,q1,JH,length_append,length_map]
     exact ⟨L++[(j:Int)],by rw [AeP e,hL,VB],by simp,rfl⟩
   .rintro F h ⟨p2,p3,p6,p9,h0,h3,h4,h5,L,hL,h6,rfl⟩
    cases c0:decide (L.length=0) with
    | true =>
     have q5:=of_decide_eq_true c0
     have hz:decide ((L.length:Int)=0)=true:=decide_eq_true (by omega)
     have hf:=hq s mem k at_ W S (fun u hu=>by
      obtain ⟨j,hj,rfl⟩:=List.getElem_of_mem hu
      have q7:KA t at_ mem at_.length=[]:=List.length_eq_zero_iff.1 (by rwa [hL,BH] at q5)
      have qb:j∉KA t at_ mem at_.length:=by rw [q7];simp
      simp only [KA,mem_filter,mem_range,not_and,Bool.not_eq_true] at qb
      have:=qb hj
      rw [List.getD_eq_getElem?_getD,List.getElem?_eq_getElem hj] at this
      exact Option.isNone_iff_eq_none.1 (by rw [<- Option.not_isSome,show (Ez t at_[j] mem).isSome=false from this];rfl)) hP
     rcases h8 with rfl | ⟨rfl,rfl⟩
     .simp only [go_sem,↓reduceIte,p2,p3,p6,p9,h0,h3,h4,h5,h6,c0,hz,b6,b9,A0]
      exact hf
     .simp only [go_sem,↓reduceIte,p2,p3,p6,p9,h0,h3,h4,h5,h6,c0,hz,b6,b9,A0,length_map]
      exact hf
    | false =>
    have q5:=of_decide_eq_false c0
    have hz:decide ((L.length:Int)=0)=false:=decide_eq_false (by omega)
    simp only [go_sem,↓reduceIte,p2,p3,p6,p9,h0,h3,h4,h5,h6,c0,hz]
    refine (A9H C l hl a ha _ _ _ _ _ _).mono ?_
    rintro _ _ ⟨p,rfl,hp,a',q9,rfl⟩
    have q3:p < L.length:=by have:=hp (by omega);omega
    obtain ⟨q,qi,qd⟩:∃ q:Nat,L.getD p 0=q/\q∈KA t at_ mem at_.length:=by
     have hi:p < (KA t at_ mem at_.length).length:=by rwa [hL,BH] at q3
     exact ⟨_,by rw [hL];exact Ag9 hi,getElem_mem hi⟩
    have gL:=Ar q3
    rw [qi] at gL
    simp only [KA,mem_filter,mem_range] at qd
    obtain ⟨h7,qj⟩:=qd
    obtain ⟨⟨to,out⟩,e⟩:=Option.isSome_iff_exists.1 qj
    have h9:(nI at_)[q]? = some ((at_.getD q 0:Nat):Int):=by simp [nI,h7]
    obtain ⟨hv,s1,s2,k1,k2,hg,W1,w2,W2,hk,S2⟩:=Ady ht W S h7 (u:=at_.getD q 0) (by rw [List.getD_eq_getElem?_getD,List.getElem?_eq_getElem h7];rfl) e
    have hs:=qe q h7 b6 (b9 s) (atO at_) (MO l a') (some (AL Bg 1 (L.map eI)))
    have q6:atO at_=some ⟨Bg,1,at_.length,false,(nI at_).map eI⟩:=by rw [atO,JN (by rw [length_map,BH];omega),length_map,BH]
    have hb:some ⟨Bg,1,at_.length,false,(nI (at_.set q to)).map eI⟩ = atO (at_.set q to):=by rw [atO,JN (by rw [length_map,BH,length_set];omega),length_map,BH,length_set]
    rw [q6] at hs ⊢
    rw [e] at hs
    simp only [b6,b9] at hs
    have wk:=fun {s:A8} {k:Nat} (W:WI t s mem k) {n:Nat} (hn:n < t.nodes.length) {s':A8} (hw:Yc t s n s') (Q:VV->Prop)=>R5 C t ht s (W.gr.sz ht (by have:=W.k64 ht;omega)) (W.gr.sz' (by have:=W.k64 ht;omega)) hn hw W.form.ml (fun loc hl=>W.pos hl) (fun loc hl c hc=>by obtain ⟨w,h,_⟩:=W.one loc hl c hc;exact ⟨w,h⟩) (Q:=Q)
    have qg:=wk W1 hv w2
    have qa:=Hw (ty:=Bg) (e:=1) (rows:=L.map eI) (by rw [length_map];exact q5)
    have hh:okB 5 (atO (at_.set q to))=true:=by
     unfold atO
     simp only [go_sem]
    have ho:(List.map eI (nI at_)).set q [.i .i64 (to:Nat)]=(nI (at_.set q to)).map eI:=by rw [Aar,Aga]
    have q8:P s2:=P1 s s1 s2 (at_.getD q 0) to mem out W.form (S.has _ (Af h7)).1 hP e hg W1.form w2
    cases cu:decide ((t.at to).up=((at_.getD q 0:Nat):Int)) with
    | true =>
     rw [if_neg (by rw [of_decide_eq_true cu];simp)] at hg
     subst hg
     simp only [go_sem,↓reduceIte,p2,p3,p6,p9,h0,h3,h4,h5,h6,gL,q3,qa,h9,hs,h7,BH,KW,q0,he,cu,hv,A6 hv,qg,ho,hb,b6,b9,A0,length_map]
     refine ⟨.inr hh,fun _ _=>?_⟩
     refine ⟨s2,at_.set q to,out,k2,a',lI out,x3,W2,S2,by omega,q9,.inl rfl,?_,?_,?_,?_,?_,?_,?_,rfl,q8⟩<;>simp only [go_sem,↓reduceIte,p2,p3,p6,p9,h0,h3,h4,length_set]
    | false =>
     rw [if_pos (of_decide_eq_false cu)] at hg
     obtain ⟨m,hm,qh,w1⟩:=hg
     have qf:=wk W qh w1
     rw [<- hm] at qf
     simp only [go_sem,↓reduceIte,p2,p3,p6,p9,h0,h3,h4,h5,h6,gL,q3,qa,h9,hs,h7,BH,KW,q0,he,cu,hv,A6 hv,qf,qg,ho,hb,b6,b9,A0,length_map]
     refine ⟨.inr hh,fun _ _=>?_⟩
     refine ⟨s2,at_.set q to,out,k2,a',lI out,x3,W2,S2,by omega,q9,.inl rfl,?_,?_,?_,?_,?_,?_,?_,rfl,q8⟩<;>simp only [go_sem,↓reduceIte,p2,p3,p6,p9,h0,h3,h4,length_set]
   .simp only [go_sem,↓reduceIte]
   .simp only [go_sem,↓reduceIte,p2,p3,p6,p9,h0,h3,h4,h5]
    exact ⟨[],rfl,rfl,rfl⟩
  .rintro F h ⟨s,at_,mem,k,a,mv,x3,R⟩
   have:=R.wi.k64 ht
   have:=R.rk
   omega
  .simp only [go_sem,↓reduceIte]
  .subst hL hM
   rw [BH] at h0
   refine ⟨AP t,Rw t t.nodes.length,KI t t.nodes.length,0,0,_,_,AjD ht,AjC ht,zero_le _,zero_le _,.inr ⟨rfl,rfl⟩,?_,?_,?_,?_,?_,?_,?_,rfl,P0⟩<;>simp only [go_sem,↓reduceIte,p2,p3,p6,p9,h0,h3]
 .simp only [go_sem,↓reduceIte]
 .simp only [go_sem,↓reduceIte]
  exact ⟨[],rfl,[],rfl,rfl,rfl,rfl⟩
end
def Bh (s:A8):AT:=⟨s.has,s.jf,s.mo.map fun l=>l.flatten⟩
def exH (s:A8) (L:List (List Int)):VH:=[some ⟨D4,0,0,false,[[.nl,.nl,.nl]]⟩,some (cpO Bg 1 (s.has.map eI)),some (cpO Bg 1 (s.jf.map eI)),
 some ⟨D4,0,0,false,[[.sl 1 (cpV s.has.length) 0 s.has.length,.sl 2 (cpV s.jf.length) 0 s.jf.length,.sl 4 L.length 0 L.length]]⟩,some (AL Sz 1 (L.map M5))]
section
variable {V:Ae} (C:Ai V) {Q:VV->Prop}
include C
theorem Z8 (s:A8) (hs:KZ s) (h1:∀ l∈s.mo,∀ c∈l,∃ w:Int,c=[w]):VP V Zg [LX s] Q↔Q (vEx (Bh s)):=by
 refine Ad ?_
 rw [Ab C.c_z20.1 C.c_z20.2]
 have g1:=hs.has
 have g2:=hs.jf
 have g3:=hs.mo
 have b1:s.has.length * 8<=A9:=by unfold A9;omega
 have b2:s.jf.length * 8<=A9:=by unfold A9;omega
 simp only [A8E,go_sem,↓reduceIte,b1,b2]
 refine Al (by decide) s.mo.length (by omega) (I:=fun k F h=>A2.tmp F 1 = .fp (XV s) 0/\A2.tmp F 2 = .p 0 0 0 0/\A2.tmp F 3 = .p 3 0 0 0/\∃ L,L=(s.mo.take k).map (fun l=>l.flatten)/\h=exH s L) ?_ ?_ ?_ 0 _ _ (zero_le _) ?_ ?_
 .rintro k F h hk p4 ⟨p1,p2,p3,L,hL,rfl⟩
  simp only [go_sem,↓reduceIte,p4,p1,p2,p3]
  exact ⟨L,hL,rfl⟩
 .rintro k F h hk p4 ⟨p1,p2,p3,L,hL,rfl⟩
  obtain ⟨M,hM⟩:∃ M,M=s.mo.getD k []:=⟨_,rfl⟩
  have gL:=Cx hk
  have hm:=hs.mi' k
  have h2:=h1 _ (Af (d:=[]) hk)
  rw [<- hM] at gL hm h2
  have h5:L.length=k:=by rw [hL,length_map,List.length_take];omega
  have h0:(s.mo.take (k+1)).map (fun l=>l.flatten)=L++[M.flatten]:=by
   rw [List.take_succ_eq_append_getElem hk,List.map_append,<- hL,hM,List.getD_eq_getElem?_getD,List.getElem?_eq_getElem hk];rfl
  simp only [go_sem,↓reduceIte,p4,p1,p2,p3,gL,hk,A0,exH]
  refine Al (by decide) M.length (by omega) (I:=fun j F h=>A2.tmp F 4 = .i .i64 k/\A2.tmp F 1 = .fp (XV s) 0/\A2.tmp F 2 = .p 0 0 0 0/\A2.tmp F 3 = .p 3 0 0 0/\∃ K,K=(M.take j).flatten/\K.length=j/\A2.tmp F 5 = .sl 5 K.length 0 K.length/\h=exH s L++[some (AL Bg 1 (K.map eI))]) ?_ ?_ ?_ 0 _ _ (zero_le _) ?_ ?_
  .rintro j F h hj q6 ⟨q4,q1,q2,q3,K,hK,h3,q5,rfl⟩
   simp only [go_sem,↓reduceIte,q6,q4,q1,q2,q3,q5,gL,hk]
   exact ⟨K,hK,h3,rfl,rfl⟩
  .rintro j F h hj q6 ⟨q4,q1,q2,q3,K,hK,h3,q5,rfl⟩
   obtain ⟨w,hw⟩:=h2 _ (Af (d:=[]) hj)
   have gI:=Ep hj
   rw [hw] at gI
   have h4:(M.take (j+1)).flatten=K++[w]:=by
    rw [List.take_succ_eq_append_getElem hj,List.flatten_append,<- hK]
    rw [List.getD_eq_getElem?_getD,List.getElem?_eq_getElem hj] at hw
    rw [show M[j]=[w] from hw];simp
   have b3:(K.length+1) * 8<=A9:=by unfold A9;omega
   simp only [go_sem,↓reduceIte,q6,q4,q1,q2,q3,q5,gL,hk,gI,hj,b3,exH,JH,A0,length_append,length_map,List.map_cons,List.map_nil]
   exact ⟨K++[w],h4.symm,by simp [h3],by simp,rfl⟩
  .rintro F h ⟨q4,q1,q2,q3,K,hK,h3,q5,rfl⟩
   rw [take_length] at hK
   subst hK
   have b4:(L.length+1) * 24<=A9:=by unfold A9;omega
   simp only [go_sem,↓reduceIte,q4,q1,q2,q3,q5,b4,exH,A35,length_append,length_map]
   exact ⟨_,h0.symm,by rw [length_append];rfl⟩
  .simp only [go_sem,↓reduceIte]
  .simp only [go_sem,↓reduceIte,p4,p1,p2,p3,exH]
   exact ⟨[],rfl,rfl,rfl,rfl⟩
 .rintro F h ⟨p1,p2,p3,L,hL,rfl⟩
  rw [take_length] at hL
  subst hL
  simp only [go_sem,↓reduceIte,p1,p2,p3,exH,length_map]
  rfl
 .simp only [go_sem,↓reduceIte]
 .simp only [go_sem,↓reduceIte]
  exact ⟨[],rfl,rfl⟩
end
end Go.AM
