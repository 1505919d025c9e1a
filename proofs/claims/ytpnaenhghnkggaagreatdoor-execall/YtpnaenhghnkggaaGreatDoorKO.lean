/-
  Own work, part of the proof of these laws: what functions compute.
-/
import Derived.Test.YtpnaenhghnkggaaGreatDoorKM
import Derived.Test.YtpnaenhghnkggaaGreatDoorKN
set_option maxRecDepth 10000
set_option maxHeartbeats 64000000
set_option linter.unusedVariables false
set_option linter.unusedSimpArgs false
set_option linter.unusedSectionVars false
open Bool (and_eq_true or_eq_true)
open Int (toNat_natCast)
open List (length_map filter_append append_nil length_filter_le)
open BitVec (getLsbD_and)
namespace Go.AM
open Go Go.Proofs
section
variable {V:Ai}(C:Am V)
include C
theorem Po{n:Nat}(hn:n<=64)(p:Nat->Nat->Bool){Q:VV->Prop}:VP V A1j [lW (Av n p)] Q↔Q (.b (Uj (Av n p))):=by
 refine Af ?_
 rw[Ad C.c_z62.1 C.c_z62.2]
 have hm:=DN hn p
 have hl:=D2 hn p
 have h0:=Az (n:=n) (p:=p)
 have h2:=fun(Q:VV->Prop)=>Jv C (Av n p) (Q:=Q)
 unfold Uj
 rw[hm,Bool.true_and,h0]
 obtain⟨a,ha⟩:∃a,a=Av n p:=⟨_,rfl⟩
 rw[<- ha]at hm hl h0 h2 ⊢
 simp only[Ac6,go_sem,h2,hl]
 refine Aj (by decide) n (by omega) (I:=fun k F h=>A3.tmp F 0=lW a/\A3.tmp F 6=lW (BG a)/\h=[]/\∀j,j<k->((BG a).getD j 0#64).getLsbD j=false) ?_ ?_ 0 _ _ (by omega) ?_ ?_ ?_
 .rintro k F h hk p8 p7 ⟨p0,p6,rfl,pr⟩
  have gW:=Cj (a:=BG a) (i:=k) (by omega)
  have h1:k<(BG a).length:=by omega
  have hh:=Aq ((BG a).getD k 0#64) k
  cases d:((BG a).getD k 0#64).getLsbD k with
  |true=>
   rw[d]at hh
   have hb:=AB (p:=fun i=>!((BG a).getD i 0#64).getLsbD i) hk (by rw[d];rfl)
   simp only[go_sem,p8,p7,p0,p6,gW,h1,AS C,hh,hb,A0]
  |false=>
   rw[d]at hh
   simp only[go_sem,p8,p7,p0,p6,gW,h1,AS C,hh,A0]
   intro j hj
   rcases Nat.lt_or_ge j k with c|c
   .exact pr j c
   .rw[show j=k by omega];exact d
 .rintro F h ⟨p0,p6,rfl,pr⟩
  have hb:=AD (p:=fun i=>!((BG a).getD i 0#64).getLsbD i) fun j hj=>by rw[pr j hj];rfl
  simp only[go_sem,p0,p6,D9 C,hm,hb]
 .simp only[go_sem]
 .simp only[go_sem]
 .simp only[go_sem]
  intro j hj;omega
variable (t:A2)(ht:A7 t)(s:A8)(hs:GI s)(x1:Option VO)
include ht hs
end
theorem Aaw{w S:BitVec 64}:decide (w&&&~~~S=0#64)=decide (w|||S=S):=by
 refine decide_eq_decide.2 ?_
 rw[Rz]
 constructor
 .intro h j hj hw
  have:=congrArg (fun x=>x.getLsbD j) h
  simp only[getLsbD_and,BitVec.getLsbD_not,BitVec.getLsbD_zero,hw,Bool.true_and,decide_eq_true hj]at this
  cases c:S.getLsbD j with
  |true=>rfl
  |false=>rw[c]at this;cases this
 .intro h
  apply B4
  intro j hj
  rw[getLsbD_and,BitVec.getLsbD_not,BitVec.getLsbD_zero,decide_eq_true hj,Bool.true_and]
  cases c:w.getLsbD j with
  |false=>rfl
  |true=>rw[h j hj c];rfl
theorem A0p(t:A2)(i:Nat):(Gf t i).length<=t.nodes.length:=by
 refine Nat.le_trans (length_filter_le _ _) ?_;simp
theorem AeR(t:A2)(ht:A7 t)(S:BitVec 64)(i:Nat):(Se t S i).length<=64:=by
 have h1:=A0p t i
 have h2:=ht.n64
 rw[Se]
 refine Nat.le_trans (length_filter_le _ _) ?_
 rw[length_map];omega
theorem A05(t:A2)(ht:A7 t)(S:BitVec 64):∀k,(HK t S k).length<=64 ^ k
 |0=>by rw[HK];simp
 |k+1=>by
  rw[Afs,Nat.pow_succ]
  exact Nat.mul_le_mul (A05 t ht S k) (AeR t ht S k)
theorem A5Y(t:A2)(ht:A7 t)(S:BitVec 64){k:Nat}(hk:k<=t.regs.length):(HK t S k).length<=16777216:=by
 have h1:=A05 t ht S k
 have h2:=ht.r4
 have h3:64 ^ k<=64 ^ 4:=Nat.pow_le_pow_right (by decide) (by omega)
 exact Nat.le_trans h1 h3
def flW(O W:List (BitVec 64))(k:Nat):List (BitVec 64):=(O.take k).flatMap fun s=>W.map fun w=>s|||w
theorem Acm{O W:List (BitVec 64)}{k:Nat}(hk:k<O.length):flW O W (k+1)=flW O W k++W.map fun w=>O[k]|||w:=by
 rw[flW,List.take_succ_eq_append_getElem hk,List.flatMap_append,List.flatMap_cons,List.flatMap_nil,append_nil];rfl
theorem AfV(O W:List (BitVec 64))(k:Nat)(hW:W.length<=64)(hO:O.length<=16777216):(flW O W k).length<=16777216 * 64:=by
 have h0:∀l:List (BitVec 64),(l.flatMap fun s=>W.map fun w=>s|||w).length<=l.length * 64:=by
  intro l
  induction l with
  |nil=>simp
  |cons x l ih=>rw[List.flatMap_cons,List.length_append,length_map,List.length_cons,Nat.succ_mul];omega
 have h:=h0 (O.take k)
 rw[List.length_take]at h
 rw[flW]
 have:min k O.length * 64<=16777216 * 64:=Nat.mul_le_mul_right _ (by omega)
 omega
def L9(t:A2)(s:A8):List (List Int):=(HK t (Pe t s) t.regs.length).map AC
theorem AhT(ys:List (List Int))(y:List Int):ys.map EG++[[lI y]]=(ys++[y]).map EG:=by simp
def A0o(t:A2)(i:Nat)(k:Nat):List Nat:=(List.range k).filter fun n=>decide ((t.at n).thread=(i:Int))&&(t.at n).fin
theorem AjQ{t:A2}{i k:Nat}(h:(decide ((t.at k).thread=(i:Int))&&(t.at k).fin)=true):A0o t i (k+1)=A0o t i k++[k]:=by
 rw[A0o,List.range_succ,filter_append,List.filter_cons_of_pos (p:=fun n=>decide ((t.at n).thread=(i:Int))&&(t.at n).fin) h,List.filter_nil];rfl
theorem Abq{t:A2}{i k:Nat}(h:(decide ((t.at k).thread=(i:Int))&&(t.at k).fin)=false):A0o t i (k+1)=A0o t i k:=by
 rw[A0o,List.range_succ,filter_append,List.filter_cons_of_neg (p:=fun n=>decide ((t.at n).thread=(i:Int))&&(t.at n).fin) (by simp only[h];decide),List.filter_nil,append_nil];rfl
theorem Abr(t:A2)(i k:Nat):(A0o t i k).length<=k:=by
 refine Nat.le_trans (length_filter_le _ _) ?_;simp
theorem A1w(t:A2):CZ 0 (t.locs.length:Nat)=inW t:=by
 unfold CZ inW
 apply B4
 intro j hj
 rw[AA,AA]
 congr 1
 exact decide_eq_decide.2 (by omega)
section
variable {V:Ai}(C:Am V){Q:VV->Prop}
include C
theorem Zi(t:A2)(ht:A7 t)(i:Nat):VP V Adz [vT t,.i .i64 i] Q↔Q (lI (nI (Gf t i))):=by
 refine Af ?_
 rw[Ad C.c_z34.1 C.c_z34.2]
 have h1:=ht.n64
 simp only[AiC,go_sem]
 refine Ab (by decide) t.nodes.length (by omega) (I:=fun k F h=>A3.tmp F 1=.i .i64 i/\A3.tmp F 2=.fp (eT t) 0/\∃L,L=nI (A0o t i k)/\A3.tmp F 5=.sl 0 L.length 0 L.length/\h=[some (AN AG 1 (L.map eI))]) ?_ ?_ ?_ 0 _ _ (Nat.zero_le _) ?_ ?_
 .rintro k F h hk p6 ⟨p1,p2,L,hL,p5,rfl⟩
  simp only[go_sem,p1,p2,p5,p6]
  exact⟨L,hL,rfl,rfl⟩
 .rintro k F h hk p6 ⟨p1,p2,L,hL,p5,rfl⟩
  have h0:=Abr t i k
  have b1:(L.length+1) * 8<=A6:=by rw[hL,Ado];unfold A6;omega
  cases d1:decide ((t.at k).thread=(i:Int))with
  |false=>
   have e:=Abq (t:=t) (i:=i) (k:=k) (by rw[d1];rfl)
   simp only[go_sem,p1,p2,p5,p6,hk,A5 hk,d1,A0]
   exact⟨L,by rw[e];exact hL,rfl,rfl⟩
  |true=>
  cases d2:(t.at k).fin with
  |false=>
   have e:=Abq (t:=t) (i:=i) (k:=k) (by rw[d1,d2];rfl)
   simp only[go_sem,p1,p2,p5,p6,hk,A5 hk,d1,d2,A0]
   exact⟨L,by rw[e];exact hL,rfl,rfl⟩
  |true=>
   have e:=AjQ (t:=t) (i:=i) (k:=k) (by rw[d1,d2];rfl)
   simp only[go_sem,p1,p2,p5,p6,hk,A5 hk,d1,d2,A0,b1,CG,List.length_append,length_map]
   exact⟨L++[(k:Int)],by rw[e,hL,Ahy],by simp,rfl⟩
 .rintro F h ⟨p1,p2,L,hL,p5,rfl⟩
  subst hL
  simp only[go_sem,p1,p2,p5,length_map]
  rfl
 .simp only[go_sem]
 .simp only[go_sem]
  exact⟨[],rfl,rfl,rfl⟩
theorem A1z(t:A2)(ht:A7 t){n:Nat}(hn:n<t.nodes.length):VP V AdA [vT t,.i .i64 n] Q↔Q (vW (E4 t n)):=by
 refine Af ?_
 rw[Ad C.c_z35.1 C.c_z35.2]
 have h0:=ht.n64
 have qN:=fun(Q:VV->Prop)=>At C t n (Q:=Q)
 rw[C1 hn]at qN
 simp only[AiD,go_sem,qN,Gz C,A1w]
 unfold VL
 rw[A0]
 refine AJ (M:=Nat) (I:=fun k F h=>A3.tmp F 2=.fp (eT t) 0/\h=[]/\∃(w:BitVec 64) (x:Int),A3.tmp F 5=vW w/\A3.tmp F 6=.i .i64 x/\x<k/\x<t.nodes.length/\((x<0/\w=E4 t n)\/∃m:Nat,x=m/\∀j:Nat,j<64->(E4 t n).getLsbD j=(w.getLsbD j||decide (m=j)||(decide (j<t.nodes.length)&&AK t j m)))) (μ:=fun k=>k) ?_ (n+1) _ _ ?_
 .rintro k F h ⟨p2,rfl,w,x,p5,p6,h4,h5,hw⟩
  rcases hw with ⟨hx,rfl⟩|⟨m,rfl,hw⟩
  .have d0:decide (0<=x)=false:=decide_eq_false (by omega)
   simp only[A4s,go_sem,p2,p5,p6,d0,A0]
  .have d0:decide (0<=(m:Int))=true:=decide_eq_true (by omega)
   have hm:m<t.nodes.length:=by omega
   simp only[A4s,go_sem,p2,p5,p6,d0,hm,A5 hm,AP C,A0]
   have h3:=ht.up m hm
   refine⟨k-1,by omega,w|||BC (m:Int),rfl,by omega,by omega,?_⟩
   rcases Int.lt_or_le (t.at m).up 0 with c|c
   .refine .inl ⟨c,?_⟩
    apply B4
    intro j hj
    rw[BitVec.getLsbD_or,Q4 hj,hw j hj]
    have:AK t j m=false:=by
     unfold AK
     rw[E8 ht.up j (by omega),if_pos c]
    rw[this,Bool.and_false,Bool.or_false]
   .obtain⟨u,hu⟩:=Int.eq_ofNat_of_zero_le c
    refine .inr ⟨u,hu,fun j hj=>?_⟩
    rw[BitVec.getLsbD_or,Q4 hj,hw j hj,Qi ht.up hm hu]
    by_cases e:u=j
    .subst e
     have:u<t.nodes.length:=by omega
     simp[this]
    .rw[decide_eq_false e,Bool.false_or,Bool.or_false]
 .refine⟨?_,?_,?_⟩
  .simp only[go_sem]
  .rfl
  .refine⟨inW t,n,?_,?_,by omega,by omega,.inr ⟨n,rfl,fun j hj=>?_⟩⟩
   .simp only[go_sem]
   .simp only[go_sem]
   .rw[Bool.eq_iff_iff,L0 ht]
    simp only[or_eq_true,and_eq_true,decide_eq_true_eq,Acz ht]
    have hl:=ht.first.1
    constructor
    .rintro⟨h1,h2|h2|h2⟩
     .exact .inl (.inl ((ht.thr_iff h1).1 h2))
     .exact .inl (.inr h2.symm)
     .exact .inr ⟨h1,h2⟩
    .rintro((h|h)|⟨h1,h2⟩)
     .exact⟨by omega,.inl ((ht.thr_iff (by omega)).2 h)⟩
     .subst h;exact⟨hn,.inr (.inl rfl)⟩
     .exact⟨h1,.inr (.inr h2)⟩
end
def Es(t:A2)(s:A8)(E:List Nat)(k:Nat):List (BitVec 64):=((E.take k).filter (Kz t s)).map (E4 t)
theorem AeQ{t:A2}{s:A8}{E:List Nat}{k:Nat}(hk:k<E.length)(h:Kz t s E[k]=true):Es t s E (k+1)=Es t s E k++[E4 t E[k]]:=by
 rw[Es,List.take_succ_eq_append_getElem hk,filter_append,List.filter_cons_of_pos h,List.filter_nil,List.map_append];rfl
theorem AeP{t:A2}{s:A8}{E:List Nat}{k:Nat}(hk:k<E.length)(h:Kz t s E[k]=false):Es t s E (k+1)=Es t s E k:=by
 rw[Es,List.take_succ_eq_append_getElem hk,filter_append,List.filter_cons_of_neg (by rw[h];decide),List.filter_nil,append_nil];rfl
theorem Sg(t:A2)(s:A8)(E:List Nat)(k:Nat):(Es t s E k).length<=k:=by
 rw[Es,length_map]
 refine Nat.le_trans (length_filter_le _ _) ?_
 rw[List.length_take];omega
theorem A5X(t:A2)(ht:A7 t)(s:A8)(hf:B2 t s){k:Nat}(hk:k<=t.regs.length):(L7 t s k).length<=16777216:=by
 cases k with
 |zero=>rw[L7];simp
 |succ k=>rw[A2m ht hf];exact A5Y t ht _ hk
theorem AfB{t:A2}(ht:A7 t)(s:A8):(L9 t s).length<=16777216:=by
 rw[L9,length_map]
 exact A5Y t ht _ (Nat.le_refl _)
theorem AfC{t:A2}{s:A8}{l:List Int}(h:l∈L9 t s):l.length<=64:=by
 obtain⟨w,_,rfl⟩:=List.mem_map.1 h
 exact Cz w
open Classical in
noncomputable def BL(n:Nat)(P:Nat->Nat->Prop):Rows:=Av n fun a b=>decide (P a b)
theorem Bi{n:Nat}{P:Nat->Nat->Prop}:(BL n P).length=n:=Az
open Classical in
theorem Bm{n:Nat}{P P':Nat->Nat->Prop}(h:∀a b,a<n->b<n->(P a b↔P' a b)):BL n P=BL n P':=by
 unfold BL
 refine HV fun a b ha hb=>?_
 rw[Bool.eq_iff_iff,decide_eq_true_eq,decide_eq_true_eq]
 exact h a b ha hb
open Classical in
theorem KW(n:Nat):BL n (fun _ _=>False)=List.replicate n 0#64:=by
 rw[<- HX n]
 unfold BL
 refine HV fun a b _ _=>?_
 simp
open Classical in
theorem HY{n:Nat}(hn:n<=64){P P':Nat->Nat->Prop}{a b:Nat}(ha:a<n)(hb:b<n)(h:∀i j,i<n->j<n->(P' i j↔P i j\/(i=a/\j=b))):(BL n P).set a ((BL n P).getD a 0#64|||BC (b:Int))=BL n P':=by
 unfold BL
 rw[RP hn _ hb ha]
 refine HV fun i j hi hj=>?_
 rw[Bool.eq_iff_iff,or_eq_true,decide_eq_true_eq,decide_eq_true_eq,h i j hi hj]
 simp
def HC(e:AF)(loc:Int):List Int:=e.mo.getD loc.toNat []
structure XP(t:A2)(e:AF):Prop where
 ok:Dg t e.has e.rf
 ml:e.mo.length=t.locs.length
 mem:∀loc,loc<t.locs.length->∀x,x∈e.mo.getD loc []↔x∈e.has/\Do t loc x=true
 nd:∀loc,loc<t.locs.length->(e.mo.getD loc []).Nodup
theorem K7{t:A2}(ht:A7 t){e:AF}(h:Lb t e=true):XP t e:=by
 rw[Lb,and_eq_true,UA,and_eq_true,decide_eq_true_eq,Ag]at h
 obtain⟨h1,h2,h3⟩:=h
 have hF:=Bv h1
 have hp:=fun loc (hl:loc<t.locs.length)=>(RC ht hF loc).1 (h3 loc (by omega))
 refine⟨hF,h2,fun loc hl x=>?_,fun loc hl=>(hp loc hl).2.1⟩
 obtain⟨a,b,c⟩:=hp loc hl
 constructor
 .intro hx
  exact List.mem_filter.1 (a x hx)
 .intro hx
  exact Z5 b a (by omega) x (List.mem_filter.2 hx)
theorem A4q{t:A2}(ht:A7 t)(e:AF):Hm t e=Lb t e:=by
 rw[Lb,Hm]
 cases hf:Cb t e.has e.rf with
 |false=>simp only[Bool.false_and]
 |true=>
  have h0:=A0u ht (Bv hf)
  simp only[Bool.true_and]
  rw[Bool.eq_iff_iff,h0]
  simp only[and_eq_true,decide_eq_true_eq,Ag,and_assoc]
def bhP(t:A2)(e:AF)(w b:Int):Prop:=b∈HC e (t.at w.toNat).loc/\BH (HC e (t.at w.toNat).loc) w<BH (HC e (t.at w.toNat).loc) b
def rfX(e:AF)(a b:Int):Prop:=b∈e.has/\CA e.has e.rf b=a
def moX(t:A2)(e:AF)(a b:Int):Prop:=a∈e.has/\(t.at a.toNat).kind=3/\bhP t e a b
def frX(t:A2)(e:AF)(a b:Int):Prop:=a∈e.has/\0<=CA e.has e.rf a/\bhP t e (CA e.has e.rf a) b
def stX(t:A2)(e:AF)(a b:Nat):Prop:=rfX e a b\/moX t e a b\/frX t e a b
noncomputable def JL(t:A2)(e:AF):Rows:=BG (BL t.nodes.length (stX t e))
def Uy(t:A2)(e:AF)(a b:Nat):Prop:=M7 (fun a b=>@decide (stX t e a b) (Classical.propDecidable _)) t.nodes.length a b
section
variable {t:A2}(ht:A7 t){e:AF}(X:XP t e)
include ht X
theorem A2k{w:Nat}(hw:(w:Int)∈e.has)(hk:(t.at w).kind=3):w<t.nodes.length/\0<=(t.at w).loc/\(t.at w).loc.toNat<t.locs.length/\(w:Int)∈HC e (t.at w).loc:=by
 obtain⟨m,e1,hm⟩:=A9 (X.ok.node _ hw)
 have e2:m=w:=by omega
 subst e2
 have hl:=ht.wloc hm (.inr hk)
 refine⟨hm,hl.1,by omega,(X.mem (t.at m).loc.toNat (by omega) _).2 ⟨hw,?_⟩⟩
 simp only[Do,toNat_natCast,and_eq_true,decide_eq_true_eq]
 exact⟨hk,by omega⟩
theorem A99{loc:Nat}(hl:loc<t.locs.length){x:Int}(hx:x∈e.mo.getD loc []):∃w:Nat,x=w/\w<t.nodes.length/\(w:Int)∈e.has/\(t.at w).kind=3/\(t.at w).loc=loc:=by
 obtain⟨h1,h2⟩:=(X.mem loc hl x).1 hx
 obtain⟨w,rfl,hw⟩:=A9 (X.ok.node _ h1)
 simp only[Do,toNat_natCast,and_eq_true,decide_eq_true_eq]at h2
 exact⟨w,rfl,hw,h1,h2.1,h2.2⟩
theorem A9a{r:Nat}(hr:(r:Int)∈e.has)(h0:0<=CA e.has e.rf r):∃w:Nat,CA e.has e.rf r=w/\(w:Int)∈e.has/\(t.at w).kind=3/\(t.at w).loc=(t.at r).loc/\(t.at r).kind=2:=by
 by_cases hk:(t.at r).kind=2
 .obtain⟨h1,h2,h3⟩:=X.ok.read _ hr (by rw[toNat_natCast];exact hk)
  obtain⟨w,hw⟩:=Int.eq_ofNat_of_zero_le h0
  rw[hw,toNat_natCast]at h2 h3
  rw[toNat_natCast]at h3
  rw[hw]at h1
  exact⟨w,hw,h1,h2,h3,hk⟩
 .have:=X.ok.none _ hr (by rw[toNat_natCast];exact hk)
  omega
theorem Ao0{loc:Nat}(hl:loc<t.locs.length){i k:Nat}(hi:i<(e.mo.getD loc []).length)(hk:k<(e.mo.getD loc []).length):BH (e.mo.getD loc []) ((e.mo.getD loc []).getD i 0)<BH (e.mo.getD loc []) ((e.mo.getD loc []).getD k 0)↔i<k:=by
 rw[CX (X.nd loc hl) hi,CX (X.nd loc hl) hk]
 omega
theorem Am7{a b:Nat}(h:stX t e a b):(a:Int)∈e.has/\(b:Int)∈e.has/\(t.at a).loc=(t.at b).loc/\((t.at a).kind=2\/(t.at a).kind=3)/\((t.at b).kind=2\/(t.at b).kind=3):=by
 rcases h with ⟨h1,h2⟩|⟨h1,h2,h3,_⟩|⟨h1,h2,h3,_⟩
 .obtain⟨w,e1,e2,e3,e4,e5⟩:=A9a ht X h1 (by omega)
  have:w=a:=by omega
  subst this
  exact⟨e2,h1,e4,.inr e3,.inl e5⟩
 .rw[toNat_natCast]at h2 h3
  obtain⟨g1,g2,g3,g4⟩:=A2k ht X h1 h2
  obtain⟨w,e1,e2,e3,e4,e5⟩:=A99 ht X g3 h3
  have:w=b:=by omega
  subst this
  exact⟨h1,e3,by omega,.inr h2,.inr e4⟩
 .obtain⟨w,e1,e2,e3,e4,e5⟩:=A9a ht X h1 h2
  rw[e1,toNat_natCast]at h3
  obtain⟨g1,g2,g3,g4⟩:=A2k ht X e2 e3
  obtain⟨v,f1,f2,f3,f4,f5⟩:=A99 ht X g3 h3
  have:v=b:=by omega
  subst this
  exact⟨h1,f3,by omega,.inl e5,.inr f4⟩
theorem Ao1{b:Nat}(hb:(b:Int)∈e.has):b<t.nodes.length:=by
 obtain⟨m,e1,hm⟩:=A9 (X.ok.node _ hb)
 omega
end
structure Rk(t:A2)(s:A8):Prop where
 sg:∀loc,∀c∈s.mo.getD loc [],∃w:Int,c=[w]
 nd:∀loc,((s.mo.getD loc []).flatten).Nodup
 rk:∃(τ:Nat->Nat) (k:Nat),(∀x:Nat,(x:Int)∈s.has->τ x<k)/\(∀a b,M7 (hbB t s.has s.jf) t.nodes.length a b->τ a < τ b)/\(∀a b,stX t (Ais s) a b->τ a < τ b)
def Pz(s:A8)(loc k:Nat):List Int:=(s.mo.getD loc []).getD k []
def HI(x c:List Int):List Int:=c.filter (AQ x)
def okX(t:A2)(s:A8)(x:List Int):Bool:=Bj t s&&x.all (AQ s.has)&&(List.range x.length).all (Ch x)
def rcX(t:A2)(s:A8)(x:List Int)(n:Int):List Int:=HI x (Pz s (t.at n.toNat).loc.toNat (BW s (t.at n.toNat).loc (Mv s n)).toNat)
def JM(t:A2)(s:A8)(x:List Int)(n:Int):Bool:=decide (Mv s n<0)||decide ((rcX t s x n).length=1)
def ME(t:A2)(s:A8)(x:List Int)(n:Int):Int:=if Mv s n<0 then -1 else(rcX t s x n).getD 0 0
def Vu(x:List Int)(l:List (List Int)):Bool:=l.all fun c=>decide ((HI x c).length<=1)
def Kb(x:List Int)(l:List (List Int)):List Int:=l.flatMap (HI x)
def P7(t:A2)(s:A8)(x:List Int):Option AF:=if okX t s x&&x.all (JM t s x)&&s.mo.all (Vu x)then some ⟨x,x.map (ME t s x),s.mo.map (Kb x)⟩else none
theorem Tg{t:A2}{s:A8}(hf:B2 t s){loc k:Nat}(hl:loc<s.mo.length)(hk:k<(s.mo.getD loc []).length):(Pz s loc k).Pairwise (· < ·):=by
 have h:=hf.mo loc hl
 simp only[Dq,and_eq_true,Ag,decide_eq_true_eq]at h
 obtain⟨⟨_,h2⟩,h3⟩:=h
 have h4:=h3 k hk
 rw[or_eq_true,decide_eq_true_eq]at h4
 rcases h4 with h4|h4
 .subst h4
  rw[Pz,h2]
  exact List.pairwise_singleton _ _
 .simp only[Ca,and_eq_true,Ag,Bb]at h4
  exact Jx.1 fun i hi=>(h4.2 i hi).1.1.1.2
theorem A9j{t:A2}(ht:A7 t){x:List Int}(hx:x.Pairwise (· < ·))(hn:BF t x):AC (BI x)=x:=by
 refine Ul (Nb _) hx fun y=>?_
 rw[B7,hn.has ht.n64,Ac]
theorem Aj4{t:A2}(ht:A7 t){s:A8}(hf:B2 t s){loc k:Nat}(hl:loc<s.mo.length)(hk:k<(s.mo.getD loc []).length){x:List Int}(hx:BF t x):AC (BI (Pz s loc k)&&&BI x)=HI x (Pz s loc k):=by
 have ha:=Tg hf hl hk
 have hc:BF t (Pz s loc k):=fun y hy=>by
  have h0:Pz s loc k∈s.mo.getD loc []:=Aa hk
  exact hf.node _ (PE ht hf hl h0 hy)
 refine Ul (Nb _) (ha.filter _) fun y=>?_
 rw[B7,HI,List.mem_filter]
 constructor
 .intro h
  obtain⟨h1,h2⟩:=CO h
  obtain⟨j,rfl⟩:=Int.eq_ofNat_of_zero_le h1
  rw[Aq,getLsbD_and,and_eq_true,<- Aq,<- Aq,hc.has ht.n64,hx.has ht.n64,Ac]at h
  exact h
 .rintro⟨h1,h2⟩
  obtain⟨j,rfl,_⟩:=A9 (hc _ h1)
  rw[Aq,getLsbD_and,and_eq_true,<- Aq,<- Aq,hc.has ht.n64,hx.has ht.n64,Ac]
  exact⟨h1,h2⟩
theorem AlT{t:A2}(ht:A7 t)(s:A8)(x:List Int):okX t s x=(Bj t s&&decide (BI x|||BI s.has=BI s.has)&&decide (AC (BI x)=x)):=by
 unfold okX
 cases hff:Bj t s with
 |false=>rfl
 |true=>
  have hf:=BV.1 hff
  have hn:BF t s.has:=hf.node
  rw[Bool.true_and,Bool.true_and,Bool.eq_iff_iff,and_eq_true,and_eq_true,decide_eq_true_eq,decide_eq_true_eq,Ag,List.all_eq_true,Rz]
  constructor
  .rintro⟨h1,h2⟩
   have hx:BF t x:=fun y hy=>hf.node y (Ac.1 (h1 y hy))
   refine⟨fun j _ hj=>?_,A9j ht (Jx.1 h2) hx⟩
   rw[<- Aq,hx.has ht.n64,Ac]at hj
   rw[<- Aq,hn.has ht.n64]
   exact h1 _ hj
  .rintro⟨h1,h2⟩
   refine⟨fun y hy=>?_,Jx.2 (by rw[<- h2];exact Nb _)⟩
   rw[<- h2,B7]at hy
   obtain⟨h3,h4⟩:=CO hy
   obtain⟨j,rfl⟩:=Int.eq_ofNat_of_zero_le h3
   rw[Aq]at hy
   have:=h1 j (by omega) hy
   rw[<- Aq,hn.has ht.n64]at this
   exact this
end Go.AM
