/-
  Own work, part of the proof of these laws: what functions compute.
-/
import Derived.Test.YtpnaenhghnkggaaGreatDoorKG
import Derived.Test.YtpnaenhghnkggaaGreatDoorKM
set_option maxRecDepth 10000
set_option maxHeartbeats 64000000
set_option linter.unusedVariables false
set_option linter.unusedSimpArgs false
set_option linter.unusedSectionVars false
open Bool (and_eq_true)
open Int (toNat_natCast)
namespace Go.AM
open Go Go.Proofs
def EC (t:A1) (loc:Nat) (n:Int):Bool:=decide ((t.at n.toNat).kind=3) && decide ((t.at n.toNat).loc=loc)
def Sq (t:A1) (has:List Int) (loc:Nat):Nat->BitVec 64
 | 0=>0#64
 | k+1=>if EC t loc (has.getD k 0)=true then Sq t has loc k ||| Cl (has.getD k 0) else Sq t has loc k
def Gf (t:A1) (e:AT) (loc:Nat):Bool:=decide ((e.mo.getD loc []).length=(Bw (Sq t e.has loc e.has.length)).length) && decide (BA (e.mo.getD loc [])=Sq t e.has loc e.has.length)
def A6G (t:A1) (e:AT):Bool:=decide (e.mo.length=t.locs.length) && (List.range e.mo.length).all (Gf t e)
def RR (t:A1) (e:AT):Bool:=Eo t e.has e.rf && A6G t e
def xPl (t:A1) (e:AT) (n:Int):Int:=if (t.at n.toNat).kind≠2/\(t.at n.toNat).kind≠3 then 0 else BI (e.mo.getD (t.at n.toNat).loc.toNat []) (if (t.at n.toNat).kind=2 then e.rf.getD (BI e.has n).toNat 0 else n)
def ZS (r:Rows):Bool:=(List.range r.length).all fun i=>!BG (r.getD i 0#64) i
def MK (t:A1) (e:AT):Bool:=RR t e && ZS (J9 t e.has e.rf) && (Bc (J9 t e.has e.rf)).all fun x=>E8 (t.at x.1.toNat) (t.at x.2.toNat) (xPl t e x.1) (xPl t e x.2)
structure QP (e:AT):Prop where
 has:e.has.length<=1000
 rf:e.rf.length<=1000
 mo:e.mo.length<=1000
 mi:∀ l∈e.mo,l.length<=1000
theorem QP.mi' {e:AT} (h:QP e) (k:Nat):(e.mo.getD k []).length<=1000:=by
 by_cases c:k < e.mo.length
 .exact h.mi _ (Af c)
 .rw [List.getD_eq_getElem?_getD,List.getElem?_eq_none (by omega)];simp
abbrev eRn (t:A1) (e:AT):List VV:=[.i .i64 t.vals,lS t.locs,.ls (t.regs.map Hv),.ls (t.nodes.map eN),lI e.has,lI e.rf,.ls (e.mo.map M5)]
section
variable {V:Ae} (C:Ai V) {Q:VV->Prop}
include C
theorem QU (t:A1) (ht:A5 t) (e:AT) (he:QP e) (hn:BX t e.has):VP V Ww [.ag (eRn t e)] Q↔Q (.b (A6G t e)):=by
 refine Ad ?_
 rw [Ab C.c_z173.1 C.c_z173.2]
 have g1:=he.has
 have g3:=he.mo
 unfold A6G
 have ci:decide ((e.mo.length:Int)=(t.locs.length:Int))=decide (e.mo.length=t.locs.length):=decide_eq_decide.2 (by omega)
 cases c0:decide (e.mo.length=t.locs.length) with
 | false =>
  simp only [T3,go_sem,↓reduceIte,ci,c0,Bool.false_and]
 | true =>
 simp only [T3,go_sem,↓reduceIte,ci,c0,Bool.true_and]
 refine Ac (by decide) e.mo.length (by omega) (I:=fun k F h=>A2.tmp F 1 = .fp (eRn t e) 0/\A2.tmp F 20 = .ls (e.mo.map M5)/\h=[]/\∀ j,j < k->Gf t e j=true) ?_ ?_ 0 _ _ (by omega) ?_ ?_ ?_
 .rintro k F h hk hf hd ⟨p1,h7,rfl,pr⟩
  have gL:=Ep hk
  have hh:=he.mi' k
  obtain ⟨M,hM⟩:∃ M,M=e.mo.getD k []:=⟨_,rfl⟩
  have h0:=fun (w:BitVec 64) (Q:VV->Prop)=>Hz C w (Q:=Q)
  rw [<- hM] at gL hh
  simp only [go_sem,↓reduceIte,hf,hd,p1,h7,gL,hk,A0]
  refine Ac (by decide) e.has.length (by omega) (I:=fun j F h=>A2.tmp F 22 = .i .i64 k/\A2.tmp F 21 = .i .i64 e.mo.length/\A2.tmp F 1 = .fp (eRn t e) 0/\A2.tmp F 20 = .ls (e.mo.map M5)/\A2.tmp F 3 = .i .i64 k/\A2.tmp F 4=lI M/\A2.tmp F 29=lI e.has/\A2.tmp F 5=vW (Sq t e.has k j)/\h=[]) ?_ ?_ 0 _ _ (by omega) ?_ ?_ ?_
  .rintro j F h hj hc ha ⟨h3,h2,q1,h1,q3,q4,h8,q5,rfl⟩
   have gI:=Ar hj
   obtain ⟨n,h5,h4⟩:=Aa (hn _ (Af (d:=0) hj))
   rw [h5] at gI
   cases c1:decide ((t.at n).kind=3) with
   | false =>
    have hw:Sq t e.has k (j+1)=Sq t e.has k j:=by rw [Sq,if_neg (by rw [EC,h5,toNat_natCast,c1];simp)]
    simp only [go_sem,↓reduceIte,hc,ha,h3,h2,q1,h1,q3,q4,h8,q5,gI,hj,h4,A6 h4,c1,hw,A0]
   | true =>
   cases c2:decide ((t.at n).loc=(k:Int)) with
   | false =>
    have hw:Sq t e.has k (j+1)=Sq t e.has k j:=by rw [Sq,if_neg (by rw [EC,h5,toNat_natCast,c1,c2];simp)]
    simp only [go_sem,↓reduceIte,hc,ha,h3,h2,q1,h1,q3,q4,h8,q5,gI,hj,h4,A6 h4,c1,c2,hw,A0]
   | true =>
    have hw:Sq t e.has k (j+1)=Sq t e.has k j ||| Cl (n:Int):=by rw [Sq,if_pos (by rw [EC,h5,toNat_natCast,c1,c2];rfl),h5]
    simp only [go_sem,↓reduceIte,hc,ha,h3,h2,q1,h1,q3,q4,h8,q5,gI,hj,h4,A6 h4,c1,c2,hw,BM C,A0]
  .rintro F h ⟨h3,h2,q1,h1,q3,q4,h8,q5,rfl⟩
   have h6:Gf t e k=(decide (M.length=(Bw (Sq t e.has k e.has.length)).length) && decide (BA M=Sq t e.has k e.has.length)):=by rw [Gf,hM]
   obtain ⟨W,hW⟩:∃ W,W=Sq t e.has k e.has.length:=⟨_,rfl⟩
   rw [<- hW] at q5 h6
   have h9:decide ((M.length:Int)=((Bw W).length:Int))=decide (M.length=(Bw W).length):=decide_eq_decide.2 (by omega)
   cases d1:decide (M.length=(Bw W).length) with
   | false =>
    have hb:=AW (p:=Gf t e) hk (by rw [h6,d1];rfl)
    simp only [go_sem,↓reduceIte,h3,h2,q1,h1,q3,q4,q5,h0,h9,d1,hb]
   | true =>
   cases d2:decide (BA M=W) with
   | false =>
    have hb:=AW (p:=Gf t e) hk (by rw [h6,d1,d2];rfl)
    simp only [go_sem,↓reduceIte,h3,h2,q1,h1,q3,q4,q5,h0,h9,d1,CN C M (by omega),d2,hb]
   | true =>
    have hg:Gf t e k=true:=by rw [h6,d1,d2];rfl
    simp only [go_sem,↓reduceIte,h3,h2,q1,h1,q3,q4,q5,h0,h9,d1,CN C M (by omega),d2]
    intro j hj
    rcases Nat.lt_or_ge j k with c | c
    .exact pr j c
    .rw [show j=k by omega];exact hg
  .simp only [go_sem,↓reduceIte]
  .simp only [go_sem,↓reduceIte]
  .simp only [go_sem,↓reduceIte,hf,hd,p1,h7,Sq]
 .rintro F h ⟨p1,h7,rfl,pr⟩
  have hb:=AS pr
  simp only [go_sem,↓reduceIte,p1,h7,hb]
 .simp only [go_sem,↓reduceIte]
 .simp only [go_sem,↓reduceIte]
 .simp only [go_sem,↓reduceIte]
  intro j hj;omega
theorem Li (t:A1) (ht:A5 t) (e:AT) (he:QP e) {n:Nat} (hn:n < t.nodes.length) (hk:(t.at n).kind=2\/(t.at n).kind=3) (hm:e.mo.length=t.locs.length) (hl:e.has.length=e.rf.length) (hh:(n:Int)∈e.has):VP V VM [.ag (eRn t e),.i .i64 n] Q↔Q (.i .i64 (xPl t e n)):=by
 refine Ad ?_
 rw [Ab C.c_z115.1 C.c_z115.2]
 have g1:=he.has
 obtain ⟨i,hi,h5,_⟩:=BV (A7.2 hh)
 have h2:=ht.wloc hn hk
 obtain ⟨loc,h1⟩:=Int.eq_ofNat_of_zero_le h2.1
 have h0:loc < e.mo.length:=by omega
 have gL:=Ep h0
 have gR:=Ar (show i < e.rf.length by omega)
 have h3:i < e.rf.length:=by omega
 have h6:=he.mi' loc
 unfold xPl
 rw [toNat_natCast,if_neg (by omega),h1,toNat_natCast,hi,toNat_natCast]
 cases c:decide ((t.at n).kind=2) with
 | true =>
  rw [if_pos (of_decide_eq_true c)]
  have h4:C7 (fun y=>decide ((n:Int)=y)) e.has=(i:Int):=hi
  simp only [SR,go_sem,↓reduceIte,hn,A6 hn,c,h1,h0,gL,gR,h3,AK C e.has _ (by omega),AK C (e.mo.getD loc []) _ (by omega),h4]
  rfl
 | false =>
  rw [if_neg (of_decide_eq_false c)]
  simp only [SR,go_sem,↓reduceIte,hn,A6 hn,c,h1,h0,gL,AK C (e.mo.getD loc []) _ (by omega)]
  rfl
theorem RD (t:A1) (ht:A5 t) (e:AT) (he:QP e):VP V PF [vT t,vEx e] Q↔Q (.b (RR t e)):=by
 refine Ad ?_
 rw [Ab C.c_z112.1 C.c_z112.2]
 have h2:=ht.n64
 have h5:0 < t.nodes.length:=by
  obtain ⟨s,h1,_⟩:=ht.kinds
  have:=(h1 0 (by have:=ht.r1;omega)).1
  omega
 have h0:=fun (Q:VV->Prop)=>K9 C t ht e.has e.rf he.has he.rf (Q:=Q)
 unfold RR
 cases hf:Eo t e.has e.rf with
 | false =>
  rw [hbF,if_neg (by rw [hf];decide)] at h0
  simp only [SQ,go_sem,↓reduceIte,h0,Bool.false_and]
 | true =>
  have hF:=Bz hf
  rw [hbF,if_pos hf] at h0
  have hl:(J9 t e.has e.rf).length=t.nodes.length:=Es h2 _
  have hd:decide ((0:Int) < ((J9 t e.has e.rf).length:Nat))=true:=decide_eq_true (by omega)
  have h3:decide (0 < (J9 t e.has e.rf).length)=true:=decide_eq_true (by omega)
  have h4:=fun (Q:VV->Prop)=>QU C t ht e he hF.node (Q:=Q)
  simp only [SQ,go_sem,↓reduceIte,h0,Bool.true_and,hd,h3,h4,List.length_map]
theorem SJ (t:A1) (ht:A5 t) (e:AT) (he:QP e) (hm:e.mo.length=t.locs.length) (hl:e.has.length=e.rf.length) {n:Nat} (hn:n < t.nodes.length) (hh:(n:Int)∈e.has) :
  VP V Mi [.i .i64 n,.fp (eT t) 0,.fp (eRn t e) 0] Q↔Q (.i .i64 (xPl t e n)):=by
 refine Ad ?_
 rw [Ab C.c_z114.1 C.c_z114.2]
 cases c2:decide ((t.at n).kind=2) with
 | true =>
  have hp:=fun (Q:VV->Prop)=>Li C t ht e he hn (.inl (of_decide_eq_true c2)) hm hl hh (Q:=Q)
  simp only [Pd,go_sem,↓reduceIte,hn,A6 hn,c2,hp]
 | false =>
 cases c3:decide ((t.at n).kind=3) with
 | true =>
  have hp:=fun (Q:VV->Prop)=>Li C t ht e he hn (.inr (of_decide_eq_true c3)) hm hl hh (Q:=Q)
  simp only [Pd,go_sem,↓reduceIte,hn,A6 hn,c2,c3,hp]
 | false =>
  have e0:xPl t e n=0:=by rw [xPl,toNat_natCast,if_pos ⟨of_decide_eq_false c2,of_decide_eq_false c3⟩]
  rw [e0]
  simp only [Pd,go_sem,↓reduceIte,hn,A6 hn,c2,c3]
theorem Ys (t:A1) (ht:A5 t) (e:AT) (he:QP e):VP V A5j [vT t,vEx e] Q↔Q (.b (MK t e)):=by
 refine Ad ?_
 rw [Ab C.c_z60.1 C.c_z60.2]
 have h2:=ht.n64
 have h4:=fun (Q:VV->Prop)=>RD C t ht e he (Q:=Q)
 unfold MK
 cases hi:RR t e with
 | false =>
  simp only [A3L,go_sem,↓reduceIte,h4,hi,Bool.false_and]
 | true =>
  have h3:=hi
  simp only [RR,A6G,and_eq_true,decide_eq_true_eq] at h3
  obtain ⟨hf,h9,_⟩:=h3
  have hF:=Bz hf
  have h1:=fun (Q:VV->Prop)=>K9 C t ht e.has e.rf he.has he.rf (Q:=Q)
  rw [hbF,if_pos hf] at h1
  have hl:(J9 t e.has e.rf).length=t.nodes.length:=Es h2 _
  have hc:(Bc (J9 t e.has e.rf)).length<=5000:=by
   have:=Mp (J9 t e.has e.rf) (J9 t e.has e.rf).length
   rw [Bc]
   split
   .rw [hl] at this ⊢;omega
   .simp
  have h8:∀ x∈Bc (J9 t e.has e.rf),∃ a b:Nat,a < t.nodes.length/\b < t.nodes.length/\(a:Int)∈e.has/\(b:Int)∈e.has/\x=((a:Int),(b:Int)):=fun x hx=>by
   obtain ⟨a,b,ha,e,hp⟩:=(G5 h2 _ _).1 hx
   have:=Xs ht hF hp
   exact ⟨a,b,ha,hp.lt,this.1,this.2,e⟩
  have h5:=fun (Q:VV->Prop)=>SL C (fun n=>(n:Int)∈e.has) t ht (J9 t e.has e.rf) h8 hc (g:=Mi) (c:=[.fp (eT t) 0,.fp (eRn t e) 0]) (fun _ _=>rfl) (xPl t e) (fun n hn hh Q=>SJ C t ht e he h9 hF.len hn hh (Q:=Q)) (Q:=Q)
  obtain ⟨R,hR⟩:∃ R,R=J9 t e.has e.rf:=⟨_,rfl⟩
  rw [<- hR] at hl h1 h5 ⊢
  rw [Bool.true_and]
  simp only [A3L,go_sem,↓reduceIte,h4,hi,h1]
  refine Ac (by decide) R.length (by omega) (I:=fun k F h=>A2.tmp F 2 = .fp (eT t) 0/\A2.tmp F 5=lW R/\A2.tmp F 22=lW R/\A2.tmp F 6 = .p 0 0 0 0/\h=[some ⟨A0k,0,0,false,[eRn t e]⟩]/\∀ j,j < k->BG (R.getD j 0#64) j=false) ?_ ?_ 0 _ _ (by omega) ?_ ?_ ?_
  .rintro k F h hk h7 h6 ⟨p2,p5,h0,p6,rfl,pr⟩
   have gW:=Dq (a:=R) hk
   cases c1:BG (R.getD k 0#64) (k:Int) with
   | true =>
    have hb:ZS R=false:=AW hk (by rw [c1];rfl)
    simp only [go_sem,↓reduceIte,h7,h6,p2,p5,h0,p6,gW,hk,AD C,c1,hb,A0,Bool.false_and]
   | false =>
    simp only [go_sem,↓reduceIte,h7,h6,p2,p5,h0,p6,gW,hk,AD C,c1,A0]
    intro j hj
    rcases Nat.lt_or_ge j k with c | c
    .exact pr j c
    .rw [show j=k by omega];exact c1
  .rintro F h ⟨p2,p5,h0,p6,rfl,pr⟩
   have hb:ZS R=true:=AS fun j hj=>by rw [pr j hj];rfl
   simp only [go_sem,↓reduceIte,p2,p5,h0,p6,h5,hb,Bool.true_and]
  .simp only [go_sem,↓reduceIte]
  .simp only [go_sem,↓reduceIte]
  .simp only [go_sem,↓reduceIte]
   intro j hj;omega
end
theorem A9X (l:List Int) (x:Int):BA (l++[x])=BA l ||| Cl x:=by
 unfold BA
 rw [List.foldl_append];rfl
theorem AaZ {t:A1} {has:List Int} {loc:Nat}:∀ k,k<=has.length->Sq t has loc k=BA ((has.take k).filter (EC t loc))
 | 0,_=>rfl
 | k+1,h=>by
  have e:has.take (k+1)=has.take k++[has.getD k 0]:=by
   rw [List.take_succ_eq_append_getElem (show k < has.length by omega),List.getD_eq_getElem?_getD,List.getElem?_eq_getElem (show k < has.length by omega)];rfl
  rw [Sq,AaZ k (by omega),e,List.filter_append]
  cases c:EC t loc (has.getD k 0) with
  | true=>rw [if_pos rfl,List.filter_cons_of_pos c,List.filter_nil,A9X]
  | false=>rw [if_neg (by decide),List.filter_cons_of_neg (by rw [c];decide),List.filter_nil,List.append_nil]
theorem Hp:∀ {L:List (List Int)},(∀ c∈L,∃ w:Int,c=[w])->L=L.flatten.map fun w=>[w]
 | [],_=>rfl
 | c::L,h=>by
  obtain ⟨w,rfl⟩:=h c (by simp)
  have:=Hp (L:=L) fun c hc=>h c (by simp [hc])
  rw [List.flatten_cons,List.singleton_append,List.map_cons,<- this]
theorem A8z {α β:Type} (p:β->Bool) (f:α->β) (l:List α):C7 p (l.map f)=C7 (fun x=>p (f x)) l:=by
 unfold C7
 rw [List.findIdx?_map];rfl
theorem Aas {L:List (List Int)} (h:∀ c∈L,∃ w:Int,c=[w]) (w:Int):C7 (fun c=>AZ c w) L=BI L.flatten w:=by
 conv=>lhs;rw [Hp h]
 rw [A8z]
 unfold BI
 congr 1
 funext y
 simp [AZ]
theorem ZX {L:List (List Int)} (h:∀ c∈L,∃ w:Int,c=[w]) (w:Int):(L.filter fun c=>AZ c w).length=L.flatten.count w:=by
 conv=>lhs;rw [Hp h]
 rw [List.filter_map,List.length_map,List.count,List.countP_eq_length_filter]
 congr 2
 funext y
 simp only [Function.comp,AZ,List.any_cons,List.any_nil,Bool.or_false]
 show decide (w=y)=(y == w)
 by_cases c:w=y
 .rw [decide_eq_true c,c];simp
 .rw [decide_eq_false c];exact (beq_eq_false_iff_ne.2 fun e=>c e.symm).symm
section
variable {t:A1} (ht:A5 t) {s:A8} {mem:List Int} {k:Nat} (W:WI t s mem k)
include W
theorem WI.sing {loc:Nat} (hl:loc < s.mo.length):∀ c∈s.mo.getD loc [],∃ w:Int,c=[w]:=fun c hc=>by
 obtain ⟨w,h,_⟩:=W.one loc hl c hc
 exact ⟨w,h⟩
theorem AdW {loc:Nat} (hl:loc < s.mo.length):(Bh s).mo.getD loc []=(s.mo.getD loc []).flatten:=by
 show (s.mo.map fun l=>l.flatten).getD loc []=_
 rw [List.getD_eq_getElem?_getD,List.getElem?_map,List.getD_eq_getElem?_getD,List.getElem?_eq_getElem hl];rfl
theorem A3D {loc:Nat} (hl:loc < s.mo.length) {x:Int}:x∈(s.mo.getD loc []).flatten↔x∈s.has.filter (EC t loc):=by
 rw [List.mem_filter]
 constructor
 .intro hx
  obtain ⟨c,hc,hx⟩:=List.mem_flatten.1 hx
  obtain ⟨w,rfl,h1,h2,h3⟩:=W.one loc hl c hc
  obtain rfl:=List.mem_singleton.1 hx
  refine ⟨h1,?_⟩
  simp [EC,h2,h3]
 .rintro ⟨hx,hw⟩
  simp only [EC,and_eq_true,decide_eq_true_eq] at hw
  have ho:=W.form.once x hx hw.1
  rw [hw.2,toNat_natCast,ZX (W.sing hl)] at ho
  exact List.count_pos_iff.1 (by omega)
include ht
theorem AiR {loc:Nat} (hl:loc < s.mo.length):Gf t (Bh s) loc=true:=by
 have h3:=ht.n64
 have hw:=AaZ (t:=t) (has:=s.has) (loc:=loc) s.has.length (Nat.le_refl _)
 rw [List.take_length] at hw
 have e1:BA (s.mo.getD loc []).flatten=BA (s.has.filter (EC t loc)):=by
  have a:=Ly (l:=(s.mo.getD loc []).flatten) (l':=s.has.filter (EC t loc)) fun x hx=>(A3D W hl).1 hx
  have b:=Ly (l:=s.has.filter (EC t loc)) (l':=(s.mo.getD loc []).flatten) fun x hx=>(A3D W hl).2 hx
  rw [BitVec.or_comm] at b
  exact b.symm.trans a
 have h0:BX t (s.mo.getD loc []).flatten:=fun x hx=>W.form.node x (List.mem_filter.1 ((A3D W hl).1 hx)).1
 have h4:(s.has.filter (EC t loc)).Nodup:=List.Nodup.sublist List.filter_sublist (W.form.ris.imp fun h=>by omega)
 have:=(ZC h3 h0 h4 (fun x hx=>(A3D W hl).1 hx)).2 (fun n hn=>by
  obtain ⟨h1,h2⟩:=List.mem_filter.1 hn
  simp only [EC,and_eq_true,decide_eq_true_eq] at h2
  have ho:=W.form.once n h1 h2.1
  rwa [h2.2,toNat_natCast,ZX (W.sing hl)] at ho)
 have hh:(Bh s).has=s.has:=rfl
 rw [Gf,AdW W hl,hh,hw,<- e1,and_eq_true,decide_eq_true_eq,decide_eq_true_eq]
 exact ⟨by omega,rfl⟩
theorem A3E:RR t (Bh s)=true:=by
 have h0:(Bh s).mo.length=s.mo.length:=by simp [Bh]
 rw [RR,A6G,and_eq_true,and_eq_true,decide_eq_true_eq,h0]
 exact ⟨BC (Be.2 W.form),W.form.ml,AS fun loc hl=>AiR ht W hl⟩
theorem A8w {n:Nat} (hn:(n:Int)∈s.has) (hnl:n < t.nodes.length) (hk:(t.at n).kind=2\/(t.at n).kind=3):xPl t (Bh s) n=plN t s n:=by
 have h0:=ht.wloc hnl hk
 obtain ⟨loc,h1⟩:=Int.eq_ofNat_of_zero_le h0.1
 have h4:=W.form.ml
 have hl:loc < s.mo.length:=by omega
 have hw:(if (t.at n).kind=2 then (Bh s).rf.getD (BI (Bh s).has n).toNat 0 else (n:Int))=(if (t.at n).kind=2 then JY s n else (n:Int)):=by
  obtain ⟨i,hi,h2,_⟩:=BV (A7.2 hn)
  have h3:=W.form.jl
  have e1:(Bh s).rf.getD (BI (Bh s).has n).toNat 0=JY s n:=by
   show s.jf.getD (BI s.has n).toNat 0=_
   rw [JY,hi,if_neg (by omega)]
  rw [e1]
 rw [xPl,toNat_natCast,if_neg (by omega),hw,plN,toNat_natCast,h1,toNat_natCast,AdW W hl,B5,toNat_natCast]
 rw [if_neg (show ¬ ((loc:Int) < 0\/(s.mo.length:Int)<=loc) by omega)]
 exact (Aas (W.sing hl) _).symm
theorem AiQ:MK t (Bh s)=true:=by
 have h2:=ht.n64
 have hc:=W.coh
 rw [SH,and_eq_true,List.all_eq_true] at hc
 obtain ⟨hf,hp⟩:=hc
 have hF:=Bz (BC hf)
 have good:∀ a b:Nat,a≠b->Gz (JW t s.has s.jf) t.nodes.length a b->DS t s a b=true:=fun a b _ h0 =>
  hp _ ((G5 h2 _ _).2 ⟨a,b,by have:=h0.lt;have:=(Xs ht hF h0).1;obtain ⟨m,e,hm⟩:=Aa (hF.node _ this);omega,rfl,h0⟩)
 have hl:(J9 t s.has s.jf).length=t.nodes.length:=Es h2 _
 have h1:ZS (J9 t s.has s.jf)=true:=AS fun i hi=>by
  rw [hl] at hi
  cases c:BG ((J9 t s.has s.jf).getD i 0#64) (i:Int) with
  | false=>rfl
  | true =>
   rw [Au] at c
   exact absurd ((Ds h2 _ hi).1 c) (Ad8 ht hF.len hF good i)
 rw [MK,A3E ht W,Bool.true_and]
 show (ZS (J9 t s.has s.jf) && (Bc (J9 t s.has s.jf)).all _)=true
 rw [h1,Bool.true_and,List.all_eq_true]
 intro x hx
 have h3:=hp x hx
 obtain ⟨a,b,ha,rfl,h0⟩:=(G5 h2 _ _).1 hx
 obtain ⟨ma,mb⟩:=Xs ht hF h0
 simp only [DS,E8,toNat_natCast,Bool.or_eq_true] at h3 ⊢
 rcases h3 with h | h
 .exact .inl h
 .by_cases ka:(t.at a).kind=2\/(t.at a).kind=3
  .by_cases kb:(t.at b).kind=2\/(t.at b).kind=3
   .refine .inr ?_
    rw [A8w ht W ma ha ka,A8w ht W mb h0.lt kb];exact h
   .refine .inl (.inl (.inr ?_))
    rw [decide_eq_false (fun h=>kb (.inl h)),decide_eq_false (fun h=>kb (.inr h))];rfl
  .refine .inl (.inl (.inl ?_))
   rw [decide_eq_false (fun h=>ka (.inl h)),decide_eq_false (fun h=>ka (.inr h))];rfl
omit W in
theorem AdX (W:WI t s mem k):QP (Bh s):=by
 have hs:=W.gr.sz ht (by have:=W.k64 ht;omega)
 have h1:(Bh s).mo.length=s.mo.length:=by simp [Bh]
 refine ⟨hs.has,hs.jf,by rw [h1];exact hs.mo,fun l hl=>?_⟩
 obtain ⟨m,hm,rfl⟩:=List.mem_map.1 hl
 obtain ⟨i,hi,rfl⟩:=List.getElem_of_mem hm
 have hd:s.mo[i]=s.mo.getD i []:=by rw [List.getD_eq_getElem?_getD,List.getElem?_eq_getElem hi];rfl
 have h0:=W.sing hi
 rw [<- hd] at h0
 have hh:=congrArg List.length (Hp h0)
 rw [List.length_map] at hh
 rw [<- hh]
 exact hs.mi _ hm
end
section
variable {t:A1} (ht:A5 t) {e:AT} (hF:CD t e.has e.rf)
include ht hF
theorem Aej (loc:Nat):(e.has.filter (EC t loc)).Nodup:=List.Nodup.sublist List.filter_sublist hF.nd
theorem A65 (loc:Nat):BX t (e.has.filter (EC t loc)):=fun x hx=>hF.node x (List.mem_filter.1 hx).1
theorem AgU (loc:Nat):(Bw (BA (e.has.filter (EC t loc)))).length=(e.has.filter (EC t loc)).length:=by
 have hm:=fun x=>ZU ht.n64 (A65 ht hF loc) x
 have hS:=Qw (BA (e.has.filter (EC t loc)))
 have a:=GQ _ _ hS fun x hx=>(hm x).1 hx
 have b:=GQ _ _ (Aej ht hF loc) fun x hx=>(hm x).2 hx
 rw [List.length_map] at a b
 omega
theorem Aac (loc:Nat):Gf t e loc=true↔(∀ x∈e.mo.getD loc [],x∈e.has.filter (EC t loc))/\(e.mo.getD loc []).Nodup/\(e.mo.getD loc []).length=(e.has.filter (EC t loc)).length:=by
 have hw:=AaZ (t:=t) (has:=e.has) (loc:=loc) e.has.length (Nat.le_refl _)
 rw [List.take_length] at hw
 have h0:=AgU ht hF loc
 have h4:=Aej ht hF loc
 have h5:=A65 ht hF loc
 rw [Gf,hw,and_eq_true,decide_eq_true_eq,decide_eq_true_eq,h0]
 obtain ⟨M,hM⟩:∃ M,M=e.mo.getD loc []:=⟨_,rfl⟩
 obtain ⟨W,hW⟩:∃ W,W=e.has.filter (EC t loc):=⟨_,rfl⟩
 rw [<- hW] at h4 h5 ⊢
 rw [<- hM]
 constructor
 .rintro ⟨h1,h2⟩
  have sub:∀ x∈W,x∈M:=fun x hx=>by
   obtain ⟨n,rfl,hn⟩:=Aa (h5 x hx)
   have h6:=ht.n64
   have a:=EW W (x:=(n:Int)) (by omega) (by omega)
   have b:=EW M (x:=(n:Int)) (by omega) (by omega)
   rw [h2,a,A7.2 hx] at b
   exact A7.1 b.symm
  have nd:=Ae6 M W h4 sub (by omega)
  refine ⟨?_,nd,h1⟩
  intro x hx
  exact Xm h4 sub (by omega) x hx
 .rintro ⟨h1,h2,h3⟩
  refine ⟨h3,?_⟩
  have sub:∀ x∈W,x∈M:=fun x hx=>Xm h2 h1 (by omega) x hx
  have a:=Ly h1
  have b:=Ly sub
  rw [BitVec.or_comm] at b
  exact b.symm.trans a
end
theorem WI.ne {t:A1} (ht:A5 t) {s:A8} {mem:List Int} {k:Nat} (W:WI t s mem k):0 < s.has.length:=by
 obtain ⟨q,h1,_⟩:=ht.kinds
 obtain ⟨a,_,_,b,_⟩:=h1 0 (by have:=ht.r1;omega)
 have h0:=ht.n64
 have hi:=W.form.init
 have hb:(DP t).getLsbD (q 0)=true:=by rw [DP,Aw];simp [a,b];omega
 have:(BA s.has).getLsbD (q 0)=true:=by rw [<- hi,BitVec.getLsbD_or,hb];rfl
 have h2:=EW s.has (x:=((q 0:Nat):Int)) (by omega) (by omega)
 rw [Au,this] at h2
 exact List.length_pos_of_mem (A7.1 h2.symm)
section
variable {V:Ae} (C:Ai V) {Q:VV->Prop}
include C
theorem S4 (r:Rows) (hm:Dz r=true) (a b:Int):VP V A57 [lW r,.i .i64 a,.i .i64 b] Q↔Q (.b (decide (0<=a) && decide (a < r.length) && BG (r.getD a.toNat 0#64) b)):=by
 refine Ad ?_
 rw [Ab C.c_z23.1 C.c_z23.2]
 cases c1:decide (0<=a) with
 | false=>simp only [YC,go_sem,↓reduceIte,Cd C,hm,c1,Bool.false_and]
 | true =>
 obtain ⟨n,rfl⟩:=Int.eq_ofNat_of_zero_le (of_decide_eq_true c1)
 cases c2:decide (n < r.length) with
 | false=>simp only [YC,go_sem,↓reduceIte,Cd C,hm,c1,c2,Int.ofNat_lt,Bool.false_and,Bool.true_and]
 | true =>
  have hn:n < r.length:=of_decide_eq_true c2
  simp only [YC,go_sem,↓reduceIte,Cd C,hm,c1,Int.ofNat_lt,c2,hn,Dq hn,AD C,Bool.true_and,toNat_natCast]
end
section
variable {V:Ae} (C:Ai V)
include C
theorem Nf {n:Nat} (hn:n<=64) (p:Nat->Nat->Bool) {Q:VV->Prop}:VP V Zo [lW (Ax n p)] Q↔Q (.b (A0q (Ax n p))):=by
 refine Ad ?_
 rw [Ab C.c_z62.1 C.c_z62.2]
 have hm:=CM hn p
 have hl:=Es hn p
 have h0:=AJ (n:=n) (p:=p)
 have h2:=fun (Q:VV->Prop)=>HP C (Ax n p) (Q:=Q)
 unfold A0q
 rw [hm,Bool.true_and,h0]
 obtain ⟨a,ha⟩:∃ a,a=Ax n p:=⟨_,rfl⟩
 rw [<- ha] at hm hl h0 h2 ⊢
 simp only [A8Y,go_sem,↓reduceIte,h2,hl]
 refine Ac (by decide) n (by omega) (I:=fun k F h=>A2.tmp F 0=lW a/\A2.tmp F 6=lW (Cs a)/\h=[]/\∀ j,j < k->((Cs a).getD j 0#64).getLsbD j=false) ?_ ?_ 0 _ _ (by omega) ?_ ?_ ?_
 .rintro k F h hk p8 p7 ⟨p0,p6,rfl,pr⟩
  have gW:=Dq (a:=Cs a) (i:=k) (by omega)
  have h1:k < (Cs a).length:=by omega
  have hh:=Au ((Cs a).getD k 0#64) k
  cases d:((Cs a).getD k 0#64).getLsbD k with
  | true =>
   rw [d] at hh
   have hb:=AW (p:=fun i=>!((Cs a).getD i 0#64).getLsbD i) hk (by rw [d];rfl)
   simp only [go_sem,↓reduceIte,p8,p7,p0,p6,gW,h1,AD C,hh,hb,A0]
  | false =>
   rw [d] at hh
   simp only [go_sem,↓reduceIte,p8,p7,p0,p6,gW,h1,AD C,hh,A0]
   intro j hj
   rcases Nat.lt_or_ge j k with c | c
   .exact pr j c
   .rw [show j=k by omega];exact d
 .rintro F h ⟨p0,p6,rfl,pr⟩
  have hb:=AS (p:=fun i=>!((Cs a).getD i 0#64).getLsbD i) fun j hj=>by rw [pr j hj];rfl
  simp only [go_sem,↓reduceIte,p0,p6,Cd C,hm,hb]
 .simp only [go_sem,↓reduceIte]
 .simp only [go_sem,↓reduceIte]
 .simp only [go_sem,↓reduceIte]
  intro j hj;omega
variable (t:A1) (ht:A5 t) (s:A8) (hs:KZ s) (x1:Option VO)
include ht hs
end
end Go.AM
