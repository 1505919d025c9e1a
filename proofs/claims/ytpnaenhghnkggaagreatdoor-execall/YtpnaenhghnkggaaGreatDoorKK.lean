/-
  Own work, part of the proof of these laws: plain laws.
-/
import Derived.Test.YtpnaenhghnkggaaGreatDoorKJ
set_option maxRecDepth 10000
set_option maxHeartbeats 64000000
set_option linter.unusedVariables false
set_option linter.unusedSimpArgs false
set_option linter.unusedSectionVars false
open Bool (and_eq_true or_eq_true not_eq_true')
open Int (toNat_natCast)
open List (getElem?_eq_getElem getD_eq_getElem?_getD length_map length_append length_take length_set length_cons filter_append getElem_of_mem mem_append getElem?_set any_eq_true filter_cons)
open Option (getD_some)
open BitVec (getLsbD_or getLsbD_and)
namespace Go.AM
open Go Go.Proofs
theorem Afw{t:A2}(ht:A7 t){a:Nat}:∀(n:Nat) (b:Nat),b<n->b<t.nodes.length->AK t a b=true->(t.at a).thread=(t.at b).thread:=by
 intro n
 induction n with
 |zero=>intro b h;omega
 |succ n ih=>
  intro b h0 hb h
  have hu:=ht.up
  unfold AK at h
  have h2:=hu b hb
  rw[E8 hu a (by omega)]at h
  by_cases c1:(t.at b).up<0
  .rw[if_pos c1]at h;cases h
  .rw[if_neg c1]at h
   have hl:t.locs.length<=b:=by
    rcases Nat.lt_or_ge b t.locs.length with h1|h1
    .have:=(ht.init b h1).up;omega
    .exact h1
   have hp:=(ht.good b hl hb).par (by omega)
   rw[<- hp]
   by_cases c2:(t.at b).up=a
   .rw[c2,toNat_natCast]
   .rw[if_neg c2]at h
    exact ih (t.at b).up.toNat (by omega) (by omega) h
theorem HV{n:Nat}{p q:Nat->Nat->Bool}(h:∀a b,a<n->b<n->p a b=q a b):Av n p=Av n q:=by
 unfold Av
 apply List.map_congr_left
 intro a ha
 congr 1
 funext b
 cases c:decide (b<n)with
 |false=>rfl
 |true=>rw[h a b (List.mem_range.1 ha) (of_decide_eq_true c)]
theorem Q4{i j:Nat}(hj:j<64):(BC (i:Int)).getLsbD j=decide (i=j):=by
 rw[C2]
 exact decide_eq_decide.2 ⟨fun h=>by omega,fun h=>by omega⟩
theorem RP{n:Nat}(hn:n<=64)(q:Nat->Nat->Bool){a b:Nat}(ha:a<n)(hb:b<n):(Av n q).set b ((Av n q).getD b 0#64|||BC (a:Int))=Av n fun j i=>q j i||(decide (j=b)&&decide (i=a)):=by
 apply List.ext_getElem
 .simp[Az]
 .intro j h1 h2
  rw[length_set,Az]at h1
  rw[List.getElem_set]
  have g:=BK (n:=n) (p:=q) h1
  have g2:=BK (n:=n) (p:=fun j i=>q j i||(decide (j=b)&&decide (i=a))) h1
  rw[getElem?_eq_getElem (by rw[Az];exact h1),Option.some.injEq]at g g2
  rw[g2]
  by_cases c:b=j
  .subst c
   rw[if_pos rfl,getD_eq_getElem?_getD,BK h1,getD_some]
   apply B4
   intro i hi
   rw[getLsbD_or,AA,AA,Q4 hi,decide_eq_true (show b=b from rfl),Bool.true_and]
   by_cases e:a=i
   .subst e;simp[ha,hi]
   .have e2:decide (i=a)=false:=decide_eq_false fun h=>e h.symm
    rw[decide_eq_false e,e2,Bool.or_false,Bool.or_false]
  .rw[if_neg c,g]
   congr 1
   funext i
   rw[decide_eq_false (show ¬j=b from fun h=>c h.symm),Bool.false_and,Bool.or_false]
theorem LM{n:Nat}(hn:n<=64)(p:Nat->Nat->Bool)(x:Int×Int):x∈Bt (Av n p)↔∃a b:Nat,a<n/\b<n/\x=((a:Int),(b:Int))/\p a b=true:=by
 rw[Bt,DN hn,if_pos rfl,Az,List.mem_flatMap]
 constructor
 .rintro⟨a,ha,h⟩
  have h0:=List.mem_range.1 ha
  obtain⟨j,hj,rfl⟩:=List.mem_map.1 h
  obtain⟨h1,h2⟩:=CO (B7.1 hj)
  obtain⟨b,rfl⟩:=Int.eq_ofNat_of_zero_le h1
  have h3:=B7.1 hj
  rw[Aq,getD_eq_getElem?_getD,BK h0,getD_some,AA]at h3
  simp only[and_eq_true,decide_eq_true_eq]at h3
  exact⟨a,b,h0,by omega,rfl,by simp_all⟩
 .rintro⟨a,b,ha,hb,rfl,h⟩
  refine⟨a,List.mem_range.2 ha,List.mem_map.2 ⟨b,B7.2 ?_,rfl⟩⟩
  rw[GY hn ha hb];exact h
def bkP(P:List (Int×Int))(k:Nat)(j i:Nat):Bool:=(P.take k).any fun x=>decide (x=((i:Int),(j:Int)))
theorem Abc{P:List (Int×Int)}{k a b:Nat}(hk:k<P.length)(e:P[k]=((a:Int),(b:Int))):(fun j i=>bkP P k j i||(decide (j=b)&&decide (i=a)))=bkP P (k+1):=by
 funext j i
 unfold bkP
 rw[List.take_succ_eq_append_getElem hk,List.any_append,e]
 congr 1
 simp only[List.any_cons,List.any_nil,Bool.or_false]
 rw[<- Bool.decide_and]
 refine decide_eq_decide.2 ⟨fun⟨h1,h2⟩=>by rw[h1,h2],fun h=>?_⟩
 simp only[Prod.mk.injEq]at h
 omega
theorem Afy{n:Nat}(hn:n<=64)(p:Nat->Nat->Bool):Av n (bkP (Bt (Av n p)) (Bt (Av n p)).length)=Av n fun a b=>p b a:=by
 refine HV fun j i hj hi=>?_
 unfold bkP
 rw[List.take_length,Bool.eq_iff_iff,any_eq_true]
 constructor
 .rintro⟨x,hx,h⟩
  obtain⟨a,b,_,_,rfl,hp⟩:=(LM hn p x).1 hx
  have h:=of_decide_eq_true h
  simp only[Prod.mk.injEq]at h
  have e1:a=i:=by omega
  have e2:b=j:=by omega
  rw[<- e1,<- e2];exact hp
 .intro h
  exact⟨_,(LM hn p _).2 ⟨i,j,hi,hj,rfl,h⟩,decide_eq_true rfl⟩
section
variable {V:Ai}(C:Am V)
include C
theorem A5v{n:Nat}(hn:n<=64)(p:Nat->Nat->Bool){Q:Ex->A3->VH->Prop}(hq:∀F,A3.tmp F 2=.sl 0 0 0 n->Q .ret F [some ⟨AW,1,0,false,(Av n fun a b=>p b a).map eW⟩]) :
  Vc V QM Qt.body (Tm.ofList [lW (Av n p)]) [] Q:=by
 obtain⟨R,hR⟩:∃R,R=Av n p:=⟨_,rfl⟩
 have h2:=Afy hn p
 have h3:=fun x=>LM hn p x
 have h1:=DN hn p
 have h0:=Az (n:=n) (p:=p)
 rw[<- hR]at h2 h3 h1 h0 ⊢
 have h9:(Bt R).length<=5000:=by
  have:=Nr R R.length
  rw[Bt,if_pos h1]
  rw[h0]at this ⊢;omega
 have b1:n * 8<=A6:=by unfold A6;omega
 simp only[Qt,go_sem,D9 C,h1,h0,b1,Pb C,Int.le_refl]
 refine Aj (by decide) (Bt R).length (by omega) (I:=fun k F h=>A3.tmp F 3=.sl 0 0 0 n/\A3.tmp F 13=lP (Bt R)/\h=[some ⟨AW,1,0,false,(Av n (bkP (Bt R) k)).map eW⟩]) ?_ ?_ 0 _ _ (by omega) ?_ ?_ ?_
 .rintro k F h hk h8 h7 ⟨p3,h6,rfl⟩
  obtain⟨a,b,ha,hb,e,_⟩:=(h3 _).1 (List.getElem_mem hk)
  have Cf:(Bt R)[k]? = some ((a:Int),(b:Int)):=by rw[getElem?_eq_getElem hk,e]
  have gW:=Cj (a:=Av n (bkP (Bt R) k)) (i:=b) (by rw[Az];exact hb)
  have h4:=RP hn (bkP (Bt R) k) ha hb
  rw[Abc hk e]at h4
  have h5:∀w,((Av n (bkP (Bt R) k)).map eW).set b [vW w]=((Av n (bkP (Bt R) k)).set b w).map eW:=fun w=>by rw[List.map_set]
  simp only[go_sem,h8,h7,p3,h6,Cf,hk,hb,gW,C5 C,h5,h4,Az,length_map,A0]
 .rintro F h ⟨p3,h6,rfl⟩
  rw[h2]
  simp only[go_sem,p3]
  exact hq _ (by simp only[go_sem,p3])
 .simp only[go_sem]
 .simp only[go_sem]
 .simp only[go_sem]
  rw[<- HX]
  rfl
theorem A5w{n:Nat}(hn:n<=64)(p:Nat->Nat->Bool){Q:VV->Prop}:VP V XN [lW (Av n p)] Q↔Q (lW (Av n fun a b=>p b a)):=by
 refine Af ?_
 rw[Ad C.c_z117.1 C.c_z117.2]
 refine A5v C hn p fun F h=>?_
 simp only[Qt,go_sem,h,Az,length_map,List.take_of_length_le (Nat.le_of_eq (Az (n:=n) (p:=fun a b=>p b a)))]
end
def Aj3(n:Nat)(p:Nat->Nat->Bool)(a b:Nat):Bool:=((BG (Av n p)).getD a 0#64).getLsbD b||decide (a=b)
theorem TF{n:Nat}(hn:n<=64)(p:Nat->Nat->Bool):BG (Av n p)=Av n fun a b=>((BG (Av n p)).getD a 0#64).getLsbD b:=by
 have hl:=D2 hn p
 apply List.ext_getElem
 .rw[hl,Az]
 .intro a h1 h2
  rw[hl]at h1
  have g:=BK (n:=n) (p:=fun a b=>((BG (Av n p)).getD a 0#64).getLsbD b) h1
  rw[getElem?_eq_getElem h2,Option.some.injEq]at g
  rw[g]
  apply B4
  intro b hb
  rw[AA,getD_eq_getElem?_getD,getElem?_eq_getElem (by omega),getD_some]
  by_cases c:b<n
  .simp[c,hb]
  .rw[decide_eq_false c,Bool.false_and,Bool.false_and]
   rw[Bool.eq_false_iff]
   intro hc
   have:=(DM hn p (a:=a) (b:=b) h1).1 (by rw[getD_eq_getElem?_getD,getElem?_eq_getElem (by omega)];exact hc)
   exact c this.lt
def cfM(t:A2):Rows:=Av t.nodes.length fun a b=>AO t a b
def poM(t:A2):Rows:=Av t.nodes.length fun a b=>Ao t a b
def Abh(t:A2)(A B:BitVec 64):Bool:=!decide (Dn (cfM t) A&&&B=0#64)
def A2v(t:A2)(s:A8)(w:Nat):List Int:=(s.mo.getD (t.at w).loc.toNat []).getD (BW s (t.at w).loc w).toNat []
def AjU(t:A2)(s:A8)(w e:Nat):Bool:=(A2v t s w).any fun c=>decide (c=(e:Int))||Bh ((poM t).getD c.toNat 0#64) e||Bh ((poM t).getD e 0#64) c
def Akd(t:A2)(s:A8)(r e:Nat):Bool:=
 let w:=Mv s r
 if w<0\/(t.at w.toNat).thread<0\/(t.at w.toNat).thread=(t.at r).thread then false else Bh ((cfM t).getD w.toNat 0#64) e&&!AjU t s w.toNat e
def Aqb(t:A2)(s:A8)(H:Rows)(e:Nat):Bool:=(AC (H.getD e 0#64)).all fun r=>!Akd t s r.toNat e
def Pf(t:A2)(s:A8)(k a b:Nat):Bool:=(Bh (BI s.has) a&&Bh (BI s.has) b&&Ao t a b)||(List.range k).any fun i=>decide (s.jf.getD i 0=(a:Int))&&decide (s.has.getD i 0=(b:Int))
def hbQ(t:A2)(s:A8)(a b:Nat):Bool:=((DP t s.has s.jf).getD a 0#64).getLsbD b
def dnB(t:A2)(s:A8)(e a:Nat):Bool:=hbQ t s a e||decide (e=a)
def hgB(t:A2)(s:A8):Nat->Nat->Bool:=Aj3 t.nodes.length fun a b=>Pf t s s.has.length b a
def dnR(t:A2)(s:A8):Rows:=Av t.nodes.length (dnB t s)
def A2D(t:A2)(s:A8)(a b:Nat):Bool:=Abh t ((dnR t s).getD a 0#64) ((dnR t s).getD b 0#64)
def NF(t:A2)(s:A8)(e:Nat):Bool:=Aqb t s (Av t.nodes.length (hgB t s)) e
def Pe(t:A2)(s:A8):BitVec 64:=BI (s.has.filter fun e=>NF t s e.toNat)
theorem A0J{t:A2}{s:A8}(hf:B2 t s){w:Int}(hw:w∈s.has)(hk:(t.at w.toNat).kind=3)(ht:A7 t):0<=(t.at w.toNat).loc/\(t.at w.toNat).loc<s.mo.length/\0<=BW s (t.at w.toNat).loc w/\BW s (t.at w.toNat).loc w<(s.mo.getD (t.at w.toNat).loc.toNat []).length /\
  w∈(s.mo.getD (t.at w.toNat).loc.toNat []).getD (BW s (t.at w.toNat).loc w).toNat []:=by
 obtain⟨m,rfl,hm⟩:=A9 (hf.node w hw)
 rw[toNat_natCast]at hk ⊢
 have hl:=ht.wloc hm (.inr hk)
 have h6:=hf.ml
 obtain⟨loc,h3⟩:=Int.eq_ofNat_of_zero_le hl.1
 have ho:=hf.once _ hw (by rw[toNat_natCast];exact hk)
 rw[toNat_natCast]at ho
 rw[h3]at ho hl ⊢
 rw[toNat_natCast]at ho ⊢
 have h0:(s.mo.getD loc []).any (fun c=>AQ c (m:Int))=true:=by
  rw[any_eq_true]
  obtain⟨c,hc⟩:=List.exists_mem_of_length_pos (show 0<((s.mo.getD loc []).filter fun c=>AQ c (m:Int)).length by omega)
  obtain⟨h1,h2⟩:=List.mem_filter.1 hc
  exact⟨c,h1,h2⟩
 obtain⟨k,e,h4,hp,_⟩:=HN h0
 have h5:BW s (loc:Int) (m:Int)=(k:Int):=by
  rw[BW,if_neg (by omega),toNat_natCast];exact e
 rw[h5,toNat_natCast]
 refine⟨by omega,by omega,by omega,by omega,?_⟩
 rw[getD_eq_getElem?_getD,getElem?_eq_getElem h4]
 exact Ac.1 hp
theorem A9J{t:A2}{s:A8}(hf:B2 t s)(ht:A7 t){loc:Nat}(hl:loc<s.mo.length){c:List Int}(hc:c∈s.mo.getD loc []){x:Int}(hx:x∈c):BZ t x=true:=by
 have hm:=hf.mo loc hl
 simp only[Dq,and_eq_true,Ag,or_eq_true,decide_eq_true_eq]at hm
 obtain⟨⟨_,h0⟩,h1⟩:=hm
 obtain⟨i,hi,rfl⟩:=getElem_of_mem hc
 have hd:(s.mo.getD loc [])[i]=(s.mo.getD loc []).getD i []:=by rw[getD_eq_getElem?_getD (l:=s.mo.getD loc []),getElem?_eq_getElem hi];rfl
 rw[hd]at hx
 rcases h1 i hi with e|e
 .rw[e,h0]at hx
  rw[List.mem_singleton.1 hx]
  have:=hf.ml
  have:=ht.first.1
  exact C1 (by omega)
 .simp only[Ca,and_eq_true,Ag,Bb,Ac]at e
  obtain⟨j,hj,rfl⟩:=getElem_of_mem hx
  have:=(e.2 j hj).1.1.1.1
  rw[getD_eq_getElem?_getD,getElem?_eq_getElem hj]at this
  exact hf.node _ this
theorem Abi{t:A2}(ht:A7 t){A B:BitVec 64}:Abh t A B=true↔∃x y:Nat,x<t.nodes.length/\y<t.nodes.length/\A.getLsbD x=true/\B.getLsbD y=true/\AO t x y=true:=by
 have h4:=ht.n64
 have hl:(cfM t).length=t.nodes.length:=Az
 rw[Abh,not_eq_true',decide_eq_false_iff_not]
 constructor
 .intro h
  apply Classical.byContradiction
  intro h5
  apply h
  apply B4
  intro j hj
  rw[getLsbD_and,show(0#64).getLsbD j=false by simp,Bool.eq_false_iff]
  intro hc
  rw[and_eq_true]at hc
  obtain⟨i,hi,q1,q2⟩:=(HP (a:=cfM t) (by omega) _ j).1 hc.1
  rw[cfM,getD_eq_getElem?_getD,BK (by omega),getD_some,AA]at q2
  simp only[and_eq_true,decide_eq_true_eq]at q2
  exact h5 ⟨i,j,by omega,by omega,q1,hc.2,q2.1.2⟩
 .rintro⟨x,y,hx,hy,h1,h2,h3⟩ h0
  have:(Dn (cfM t) A&&&B).getLsbD y=true:=by
   rw[getLsbD_and,h2,Bool.and_true]
   refine(HP (a:=cfM t) (by omega) _ y).2 ⟨x,by omega,h1,?_⟩
   have:=GY h4 hx hy (p:=fun a b=>AO t a b)
   rw[Aq]at this
   rw[cfM,this];exact h3
  rw[h0]at this
  simp at this
theorem PC{t:A2}(ht:A7 t){s:A8}{e a:Nat}(he:e<t.nodes.length):((dnR t s).getD e 0#64).getLsbD a=true↔a<t.nodes.length/\dnB t s e a=true:=by
 have h0:=ht.n64
 rw[dnR,getD_eq_getElem?_getD,BK he,getD_some,AA]
 simp only[and_eq_true,decide_eq_true_eq]
 constructor
 .rintro⟨⟨h1,h2⟩,_⟩;exact⟨h1,h2⟩
 .rintro⟨h1,h2⟩;exact⟨⟨h1,h2⟩,by omega⟩
theorem AfI{t:A2}(ht:A7 t){s:A8}{a b:Nat}(ha:a<t.nodes.length)(hb:b<t.nodes.length):A2D t s a b=true↔∃x y:Nat,x<t.nodes.length/\y<t.nodes.length/\dnB t s a x=true/\dnB t s b y=true/\AO t x y=true:=by
 rw[A2D,Abi ht]
 constructor
 .rintro⟨x,y,hx,hy,h1,h2,h3⟩
  exact⟨x,y,hx,hy,((PC ht ha).1 h1).2,((PC ht hb).1 h2).2,h3⟩
 .rintro⟨x,y,hx,hy,h1,h2,h3⟩
  exact⟨x,y,hx,hy,(PC ht ha).2 ⟨hx,h1⟩,(PC ht hb).2 ⟨hy,h2⟩,h3⟩
theorem LG{t:A2}(ht:A7 t){s:A8}(hf:B2 t s){n:Nat}(hn:n<t.nodes.length)(hu:(t.at n).up<0):(n:Int)∈s.has:=by
 have h0:=ht.n64
 have hb:(Ed t).getLsbD n=true:=by rw[Ed,AA];simp[hn,hu];omega
 have:(BI s.has).getLsbD n=true:=by rw[<- hf.init,getLsbD_or,hb];rfl
 have h2:=Gw s.has (x:=(n:Int)) (by omega) (by omega)
 rw[Aq,this]at h2
 exact Ac.1 h2.symm
theorem PE{t:A2}(ht:A7 t){s:A8}(hf:B2 t s){loc:Nat}(hl:loc<s.mo.length){c:List Int}(hc:c∈s.mo.getD loc []){x:Int}(hx:x∈c):x∈s.has:=by
 have hm:=hf.mo loc hl
 simp only[Dq,and_eq_true,Ag,or_eq_true,decide_eq_true_eq]at hm
 obtain⟨⟨_,h0⟩,h1⟩:=hm
 obtain⟨i,hi,rfl⟩:=getElem_of_mem hc
 have hd:(s.mo.getD loc [])[i]=(s.mo.getD loc []).getD i []:=by rw[getD_eq_getElem?_getD (l:=s.mo.getD loc []),getElem?_eq_getElem hi];rfl
 rw[hd]at hx
 rcases h1 i hi with e|e
 .rw[e,h0]at hx
  rw[List.mem_singleton.1 hx]
  have:=hf.ml
  have:=ht.first.1
  exact LG ht hf (by omega) (by rw[(ht.init loc (by omega)).up];decide)
 .simp only[Ca,and_eq_true,Ag,Bb,Ac]at e
  obtain⟨j,hj,rfl⟩:=getElem_of_mem hx
  have:=(e.2 j hj).1.1.1.1
  rw[getD_eq_getElem?_getD,getElem?_eq_getElem hj]at this
  exact this
theorem A9K{t:A2}{s:A8}(h:B2 t s){n:Int}(hn:BZ t n=true)(hno:n∉s.has)(hup:(t.at n.toNat).up∈s.has)(hk:(t.at n.toNat).kind=3)(ht:0<=(t.at n.toNat).thread){loc k:Nat}(hl:(t.at n.toNat).loc=loc)(hll:loc<s.mo.length)(k1:1<=k)(k2:k<=(s.mo.getD loc []).length)
  (hin:∀c∈s.mo.getD loc [],∀x∈c,x∈s.has):B2 t { Ba s n (-1)with mo:=s.mo.set loc ((s.mo.getD loc []).take k++[n]::(s.mo.getD loc []).drop k) }:=by
 have sub:∀x,x∈s.has->x∈Be s.has (Bo s.has n) n:=fun x hx=>Ct.2 (.inr hx)
 obtain⟨L,hL⟩:∃L,L=s.mo.getD loc []:=⟨_,rfl⟩
 have hm:=h.mo loc hll
 rw[<- hL]at k2 hin ⊢
 have h0:(s.mo.set loc (L.take k++[n]::L.drop k)).getD loc []=L.take k++[n]::L.drop k:=by rw[getD_eq_getElem?_getD (l:=s.mo.set _ _),getElem?_set,if_pos rfl,if_pos hll];rfl
 have h2:∀j,j≠loc->(s.mo.set loc (L.take k++[n]::L.drop k)).getD j []=s.mo.getD j []:=fun j hj=>by rw[getD_eq_getElem?_getD (l:=s.mo.set _ _),getElem?_set,if_neg (Ne.symm hj),<- getD_eq_getElem?_getD]
 have h3:Ca t [n] (Be s.has (Bo s.has n) n) loc=true:=by
  simp only[Ca,and_eq_true,Ag,Bb,Ac,List.length_singleton]
  refine⟨rfl,fun i hi=>?_⟩
  obtain rfl:i=0:=by omega
  refine⟨⟨⟨⟨Ct.2 (.inl rfl),rfl⟩,?_⟩,decide_eq_true ht⟩,fun k hk=>by omega⟩
  simp[G7,hk,hl]
 have h1:∀p:List Int->Bool,((L.take k++[n]::L.drop k).filter p).length=(L.filter p).length+(if p [n]=true then 1 else 0):=fun p=>by
  have e:L.filter p=(L.take k).filter p++(L.drop k).filter p:=by rw[<- filter_append,List.take_append_drop]
  rw[e,filter_append,filter_cons,length_append,length_append]
  split
  .rw[length_cons];omega
  .omega
 have Cf:∀i,i≠k->(L.take k++[n]::L.drop k).getD i []=L.getD (if i<k then i else i-1) []:=fun i hi=>by
  have e:=GR (y:=[n]) (d:=([]:List Int)) L k (if i<k then i else i-1) k2
  by_cases c:i<k
  .rw[if_pos c]at e ⊢
   rwa [if_pos c]at e
  .rw[if_neg c]at e ⊢
   rwa [if_neg (show ¬i-1<k by omega),show i-1+1=i by omega]at e
 have h4:(L.take k++[n]::L.drop k).getD k []=[n]:=by
  rw[getD_eq_getElem?_getD,List.getElem?_append_right (by rw[length_take];omega),length_take,Nat.min_eq_left k2];simp
 refine Tt h hn hno hup (by simp[okJ,hk]) (by rw[length_set]) ?_ ?_ ?_
 .intro j hj
  by_cases c:j=loc
  .subst c
   simp only[Dq,h0,<- hL,and_eq_true,Ag,or_eq_true,not_eq_true',decide_eq_true_eq,decide_eq_false_iff_not]at hm ⊢
   obtain⟨⟨m1,m2⟩,m3⟩:=hm
   refine⟨⟨by simp,?_⟩,fun i hi=>?_⟩
   .rw[Cf 0 (by omega),if_pos (by omega)];exact m2
   .by_cases ci:i=k
    .rw[ci,h4];exact .inr h3
    .rw[Cf i ci]
     have h5:i<L.length+1:=by
      rw[length_append,length_cons,length_take,List.length_drop]at hi
      omega
     by_cases c:i<k
     .rw[if_pos c]
      rcases m3 i (by omega)with c|c
      .exact .inl c
      .exact .inr (Hi sub c)
     .rw[if_neg c]
      rcases m3 (i-1) (by omega)with d|d
      .omega
      .exact .inr (Hi sub d)
  .have hm:=h.mo j hj
   simp only[Dq,h2 j c,and_eq_true,Ag,or_eq_true]at hm ⊢
   refine⟨hm.1,fun i hi=>?_⟩
   rcases hm.2 i hi with d|d
   .exact .inl d
   .exact .inr (Hi sub d)
 .intro x hx kx
  by_cases c:(t.at x.toNat).loc.toNat=loc
  .rw[c,h0,h1,<- hL]
   have:AQ [n] x=false:=Bool.eq_false_iff.2 fun d=>hno (by rw[<- List.mem_singleton.1 (Ac.1 d)];exact hx)
   rw[this];simp
  .rw[h2 _ c]
 .intro _
  rw[hl,toNat_natCast,h0,h1]
  have e:L.filter (fun c=>AQ c n)=[]:=by
   rw[List.filter_eq_nil_iff]
   intro c hc d
   exact hno (hin c hc n (Ac.1 d))
  rw[e]
  simp[AQ]
structure Nxt(t:A2)(s s':A8)(n:Nat):Prop where
 has:∀x,x∈s'.has↔x=(n:Int)\/x∈s.has
 no:(n:Int)∉s.has
 nl:n<t.nodes.length
 up:(t.at n).up∈s.has
 ext:Ext t s s'
 form:B2 t s'
 src:(t.at n).kind=2->CA s'.has s'.jf n∈s.has
 cls:∀loc,∀c∈s.mo.getD loc [],∃c'∈s'.mo.getD loc [],∀x∈c,x∈c'
theorem Jq{t:A2}{s s':A8}{n kind w:Int}(e:D1 t s n kind w=some s'):∃m:Nat,n=m/\m<t.nodes.length/\(t.at m).kind=kind/\(m:Int)∉s.has/\(t.at m).up∈s.has/\s'=Ba s m w:=by
 unfold D1 at e
 split at e
 .rename_i h0
  cases e
  simp only[Cn,and_eq_true,not_eq_true',decide_eq_true_eq]at h0
  obtain⟨⟨⟨⟨_,h1⟩,h2⟩,h3⟩,h4⟩:=h0
  obtain⟨m,rfl,hm⟩:=A9 h1
  rw[toNat_natCast]at h2 h4
  exact⟨m,rfl,hm,h2,(fun c=>by rw[Ac.2 c]at h3;exact absurd h3 (by decide)),Ac.1 h4,rfl⟩
 .cases e
theorem Afv{t:A2}{s s':A8}(hf:B2 t s){n:Int}(e:D1 t s n 4 (-1)=some s'):∃m,Nxt t s s' m:=by
 obtain⟨m,rfl,hm,hk,h0,h1,rfl⟩:=Jq e
 have h2:B2 t (Ba s m (-1)):=A9I hf (C1 hm) h0 (by rw[toNat_natCast];exact h1) (by simp[okJ,hk]) (by rw[toNat_natCast];omega)
 exact⟨m,fun x=>Ct,h0,hm,h1,(My e).1,h2,fun c=>by omega,fun loc c hc=>⟨c,hc,fun _ h=>h⟩⟩
theorem Aeh{t:A2}{s s':A8}(hf:B2 t s){n w:Int}(e:Lp t s n w=some s'):∃m,Nxt t s s' m:=by
 have he:=(Aeg e).1
 unfold Lp at e
 split at e
 .rename_i x hx
  split at e
  .rename_i h0
   cases e
   obtain⟨m,rfl,hm,hk,h3,h4,rfl⟩:=Jq hx
   have h2:=BV.1 h0
   refine⟨m,fun x=>Ct,h3,hm,h4,he,h2,fun _=>?_,fun loc c hc=>⟨c,hc,fun _ h=>h⟩⟩
   have h1:=Bv (Cr h0)
   obtain⟨a,b,_⟩:=h1.read m (Ct.2 (.inl rfl)) (by rw[toNat_natCast];exact hk)
   rcases Ct.1 a with h|h
   .rw[h,toNat_natCast]at b;omega
   .exact h
  .cases e
 .cases e
theorem U7{t:A2}(ht:A7 t){s s':A8}(hf:B2 t s){n w:Int}(e:Hc t s n w=some s'):∃m,Nxt t s s' m:=by
 have he:=(Aax e).1
 unfold Hc at e
 split at e
 .rename_i x hx
  split at e
  .cases e
  .rename_i hw
   cases e
   obtain⟨m,rfl,hm,hk,h3,h2,rfl⟩:=Jq hx
   have hl:=ht.wloc hm (.inr hk)
   obtain⟨loc,h0⟩:=Int.eq_ofNat_of_zero_le hl.1
   have h7:=hf.ml
   have h6:0<=(t.at m).thread:=by
    rcases Int.lt_or_le (t.at m).thread 0 with c|c
    .have h1:=(ht.thr_iff hm).1 c
     have:=(ht.init m h1).up
     have:=hf.node _ h2
     simp only[BZ,and_eq_true,decide_eq_true_eq]at this
     omega
    .exact c
   simp only[toNat_natCast,h0]at he hw ⊢
   have hw:¬(w<1\/((s.mo.getD loc []).length:Int)<w):=hw
   have h5:∀c∈s.mo.getD loc [],∀x∈c,x∈s.has:=fun c hc x hx=>PE ht hf (by omega) hc hx
   have h4:=A9K hf (n:=(m:Int)) (C1 hm) h3 (by rw[toNat_natCast];exact h2) (by rw[toNat_natCast];exact hk) (by rw[toNat_natCast];exact h6) (loc:=loc) (k:=w.toNat) (by rw[toNat_natCast];exact h0) (by omega) (by omega) (by omega) h5
   refine⟨m,fun x=>Ct,h3,hm,h2,he,h4,fun c=>by omega,fun l c hc=>⟨c,?_,fun _ h=>h⟩⟩
   show c∈(s.mo.set loc _).getD l []
   by_cases cl:l=loc
   .subst cl
    rw[getD_eq_getElem?_getD (l:=s.mo.set _ _),getElem?_set,if_pos rfl,if_pos (by omega)]
    have:c∈(s.mo.getD l []).take w.toNat++(s.mo.getD l []).drop w.toNat:=by rw[List.take_append_drop];exact hc
    rw[mem_append]at this
    simp only[getD_some,mem_append,List.mem_cons]
    rcases this with h|h
    .exact .inl h
    .exact .inr (.inr h)
   .rw[getD_eq_getElem?_getD (l:=s.mo.set _ _),getElem?_set,if_neg (Ne.symm cl),<- getD_eq_getElem?_getD];exact hc
 .cases e
theorem AcE{t:A2}{s s':A8}(hf:B2 t s){n w:Int}(e:Lj t s n w=some s'):∃m,Nxt t s s' m:=by
 have he:=(AcD e).1
 unfold Lj at e
 split at e
 .rename_i x hx
  simp only at e
  split at e
  .cases e
  .rename_i hw
   split at e
   .rename_i h1
    cases e
    obtain⟨m,rfl,hm,hk,h2,h3,rfl⟩:=Jq hx
    have h0:=BV.1 h1
    refine⟨m,fun x=>Ct,h2,hm,h3,he,h0,fun c=>by omega,fun l c hc=>?_⟩
    simp only[toNat_natCast]at hw ⊢
    show ∃c'∈(s.mo.set (t.at m).loc.toNat _).getD l [],∀x∈c,x∈c'
    by_cases cl:(t.at m).loc.toNat=l
    .subst cl
     by_cases hll:(t.at m).loc.toNat<s.mo.length
     .rw[getD_eq_getElem?_getD (l:=s.mo.set _ _),getElem?_set,if_pos rfl,if_pos hll,getD_some]
      obtain⟨i,hi,rfl⟩:=getElem_of_mem hc
      refine⟨((s.mo.getD (t.at m).loc.toNat []).set w.toNat _)[i]'(by rw[length_set];exact hi),List.getElem_mem _,fun x hx=>?_⟩
      rw[List.getElem_set]
      split
      .rename_i h
       subst h
       refine Ct.2 (.inr ?_)
       show x∈(s.mo.getD (t.at m).loc.toNat []).getD w.toNat []
       rw[getD_eq_getElem?_getD (l:=s.mo.getD _ _),getElem?_eq_getElem hi];exact hx
      .exact hx
     .rw[getD_eq_getElem?_getD,List.getElem?_eq_none (by omega)]at hc
      cases hc
    .rw[getD_eq_getElem?_getD (l:=s.mo.set _ _),getElem?_set,if_neg cl,<- getD_eq_getElem?_getD]
     exact⟨c,hc,fun _ h=>h⟩
   .cases e
 .cases e
theorem AdT{t:A2}(ht:A7 t){s s':A8}(hf:B2 t s){a b:Nat}(e:P6 t s a b=some s'):∃m,Nxt t s s' m:=by
 unfold P6 at e
 simp only at e
 split at e
 .cases e
 .split at e
  .exact Afv hf e
  .split at e
   .split at e
    .cases e
    .exact Aeh hf e
   .split at e
    .split at e
     .rename_i s2 hj
      cases e;exact AcE hf hj
     .exact U7 ht hf e
    .exact U7 ht hf e
theorem A1T{t:A2}(ht:A7 t){s:A8}(hf:B2 t s){a b:Nat}:Pf t s s.has.length b a=true↔(a:Int)∈s.has/\(((b:Int)∈s.has/\Ao t b a=true)\/CA s.has s.jf a=b):=by
 have h0:=ht.n64
 have hF:=Bv (Cr (BV.2 hf))
 have hn:BF t s.has:=hf.node
 have hh:=fun(x:Nat)=>hn.has h0 (x:Int)
 simp only[Pf,hh,or_eq_true,and_eq_true,any_eq_true,List.mem_range,decide_eq_true_eq,Ac]
 constructor
 .rintro(⟨⟨h1,h2⟩,h3⟩|⟨i,hi,h1,h2⟩)
  .exact⟨h2,.inl ⟨h1,h3⟩⟩
  .have hm:=Aa (d:=0) hi
   have:=hF.at_ i hi
   rw[h2,h1]at this
   rw[h2]at hm
   exact⟨hm,.inr this⟩
 .rintro⟨h1,⟨h2,h3⟩|h2⟩
  .exact .inl ⟨⟨h2,h1⟩,h3⟩
  .obtain⟨i,hi,e⟩:=getElem_of_mem h1
   have hg:s.has.getD i 0=(a:Int):=by rw[getD_eq_getElem?_getD,getElem?_eq_getElem hi];exact e
   have:=hF.at_ i hi
   rw[hg,h2]at this
   exact .inr ⟨i,hi,this.symm,hg⟩
theorem AfD{t:A2}{s:A8}(hf:B2 t s)(ht:A7 t){w:Nat}(hw:(w:Int)∈s.has)(hk:(t.at w).kind=3):A2v t s w∈s.mo.getD (t.at w).loc.toNat []/\(w:Int)∈A2v t s w:=by
 obtain⟨a1,a2,a3,a4,a5⟩:=A0J hf hw (by rw[toNat_natCast];exact hk) ht
 rw[toNat_natCast]at a1 a2 a3 a4 a5
 exact⟨Aa (d:=[]) (k:=(BW s (t.at w).loc w).toNat) (by omega),a5⟩
structure Lst(t:A2)(s s':A8):Prop where
 has:∀x,x∈s.has->x∈s'.has
 on:∀x,x∈s.has->CA s'.has s'.jf x=CA s.has s.jf x
 dn:∀e a:Nat,(e:Int)∈s.has->a<t.nodes.length->dnB t s' e a=dnB t s e a
 vis:∀e:Nat,(e:Int)∈s.has->NF t s e=true->NF t s' e=true
theorem Lst.refl(t:A2)(s:A8):Lst t s s:=⟨fun _ h=>h,fun _ _=>rfl,fun _ _ _ _=>rfl,fun _ _ h=>h⟩
theorem Lst.trans{t:A2}{a b c:A8}(h:Lst t a b)(k:Lst t b c):Lst t a c:=
 ⟨fun x hx=>k.has x (h.has x hx),fun x hx=>(k.on x (h.has x hx)).trans (h.on x hx),fun e x he hx=>(k.dn e x (h.has _ he) hx).trans (h.dn e x he hx),fun e he hv=>k.vis e (h.has _ he) (h.vis e he hv)⟩
def Hn(S:BitVec 64):Nat:=((List.range 64).filter fun j=>!S.getLsbD j).length
theorem A6w{α:Type}{p q:α->Bool}(h:∀y,p y=true->q y=true):∀l:List α,(l.filter p).length<=(l.filter q).length
 | []=>Nat.le_refl _
 |y::l=>by
  have ih:=A6w h l
  rw[filter_cons,filter_cons]
  cases c:p y with
  |true=>rw[if_pos rfl,if_pos (h y c),length_cons,length_cons];omega
  |false=>
   rw[if_neg (by decide)]
   split
   .rw[length_cons];omega
   .exact ih
theorem A6x{α:Type}{p q:α->Bool}(h:∀y,p y=true->q y=true){x:α}(hq:q x=true)(hp:p x=false):∀{l:List α},x∈l->(l.filter p).length<(l.filter q).length
 |y::l,hx=>by
  rw[filter_cons,filter_cons]
  rcases List.mem_cons.1 hx with rfl|hx
  .have:=A6w h l
   rw[hp,hq,if_neg (by decide),if_pos rfl,length_cons];omega
  .have ih:=A6x h hq hp hx
   cases c:p y with
   |true=>rw[if_pos rfl,if_pos (h y c),length_cons,length_cons];omega
   |false=>
    rw[if_neg (by decide)]
    split
    .rw[length_cons];omega
    .exact ih
theorem A0K{S:BitVec 64}{n:Nat}(hn:n<64)(h:S.getLsbD n=false):Hn (S|||BC (n:Int))<Hn S:=by
 refine A6x (x:=n) (fun y hy=>?_) (by rw[h];rfl) ?_ (List.mem_range.2 hn)
 .rw[getLsbD_or,not_eq_true',Bool.or_eq_false_iff]at hy
  rw[hy.1];rfl
 .rw[getLsbD_or,Q4 hn,decide_eq_true rfl,Bool.or_true];rfl
theorem Ag0(S:BitVec 64):Hn S<=64:=by
 refine Nat.le_trans (List.length_filter_le _ _) ?_
 simp
def Ps(t:A2)(s:A8)(n:Nat):List Int:=(if 0<=Mv s n then [Mv s n]else [])++(if 0<=(t.at n).up then [(t.at n).up]else [])++(if 0<=(t.at n).thread then(List.range t.locs.length).map fun(k:Nat)=>(k:Int)else [])
theorem A1U(t:A2)(ht:A7 t)(s:A8)(n:Nat):(Ps t s n).length<=6:=by
 have:=ht.l4
 unfold Ps
 split<;>split<;>split<;>simp<;>omega
theorem A4n{t:A2}(ht:A7 t){s:A8}{e r:Nat}(he:e<t.nodes.length):hgB t s e r=true↔M7 (fun a b=>Pf t s s.has.length b a) t.nodes.length e r\/e=r:=by
 rw[hgB,Aj3,or_eq_true,decide_eq_true_eq,DM ht.n64 _ he]
section
variable {t:A2}(ht:A7 t){s:A8}(hf:B2 t s)
include ht hf
theorem Aeu{n:Nat}(hn:(n:Int)∈s.has){r:Int}(h:r∈Ps t s n):∃m:Nat,r=m/\m<t.nodes.length/\(m:Int)∈s.has/\Pf t s s.has.length m n=true:=by
 have hF:=Bv (Cr (BV.2 hf))
 obtain⟨n',e,h2⟩:=A9 (hf.node _ hn)
 have e:n=n':=by omega
 subst e
 have fin:∀m:Nat,(m:Int)∈s.has->(Ao t m n=true\/CA s.has s.jf n=(m:Int))->∃k:Nat,(m:Int)=k/\k<t.nodes.length/\(k:Int)∈s.has/\Pf t s s.has.length k n=true:=fun m hm h=>by
  obtain⟨m',e,h3⟩:=A9 (hf.node _ hm)
  have e:m=m':=by omega
  subst e
  refine⟨m,rfl,h3,hm,(A1T ht hf).2 ⟨hn,?_⟩⟩
  rcases h with h|h
  .exact .inl ⟨hm,h⟩
  .exact .inr h
 simp only[Ps,mem_append]at h
 rcases h with (h|h)|h
 .split at h
  .rename_i c
   rw[List.mem_singleton]at h
   subst h
   have hk:(t.at n).kind=2:=by
    apply Classical.byContradiction
    intro hk
    have:=hF.none n hn (by rw[toNat_natCast];exact hk)
    rw[NW hF.len]at c
    omega
   obtain⟨q1,_,_⟩:=hF.read n hn (by rw[toNat_natCast];exact hk)
   obtain⟨w,hw,_⟩:=A9 (hf.node _ q1)
   rw[NW hF.len,hw]
   rw[hw]at q1
   exact fin w q1 (.inr hw)
  .cases h
 .split at h
  .rename_i c
   rw[List.mem_singleton]at h
   subst h
   have hu:=hf.up _ hn
   rw[toNat_natCast]at hu
   obtain⟨u,h0⟩:=Int.eq_ofNat_of_zero_le c
   rw[h0]
   have h4:(u:Int)∈s.has:=by
    rcases hu with h|h
    .omega
    .rw[<- h0];exact h
   have:=A9l ht h2 c
   rw[h0]at this
   exact fin u h4 (.inl this)
  .cases h
 .split at h
  .rename_i c
   obtain⟨k,hk,rfl⟩:=List.mem_map.1 h
   have hk:=List.mem_range.1 hk
   have I:=ht.init k hk
   have h1:k<t.nodes.length:=by have:=ht.first.1;omega
   refine fin k (LG ht hf h1 (by rw[I.up];decide)) (.inl ?_)
   simp only[Ao,C1 h1,C1 h2,toNat_natCast,I.thr,Bool.true_and]
   rw[if_pos (by decide)]
   exact decide_eq_true c
  .cases h
theorem S2{S:Nat->Prop}(hS:∀n:Nat,S n->(n:Int)∈s.has->∀r:Nat,(r:Int)∈Ps t s n->S r){e r:Nat}(he:(e:Int)∈s.has)(h0:S e)(h:hgB t s e r=true):S r/\(r:Int)∈s.has:=by
 have hF:=Bv (Cr (BV.2 hf))
 obtain⟨e',e1,h7⟩:=A9 (hf.node _ he)
 have e1:e=e':=by omega
 subst e1
 have up:∀(N b:Nat),b<N->(b:Int)∈s.has->S b->∀a:Nat,AK t a b=true->S a/\(a:Int)∈s.has:=by
  intro N
  induction N with
  |zero=>intro b h;omega
  |succ N ih=>
   intro b hN hb h9 a h
   obtain⟨b',e,h6⟩:=A9 (hf.node _ hb)
   have e:b=b':=by omega
   subst e
   have hh:=ht.up b h6
   rcases Int.lt_or_le (t.at b).up 0 with c|c
   .unfold AK at h
    rw[E8 ht.up a (by omega),if_pos c]at h
    cases h
   .obtain⟨m,hm⟩:=Int.eq_ofNat_of_zero_le c
    have hu:=hf.up _ hb
    rw[toNat_natCast]at hu
    have h8:(m:Int)∈s.has:=by
     rcases hu with hu|hu
     .omega
     .rw[<- hm];exact hu
    have h4:S m:=hS b h9 hb m (by
     simp only[Ps,mem_append]
     left;right
     rw[if_pos c,hm];simp)
    rw[Qi ht.up h6 hm,or_eq_true,decide_eq_true_eq]at h
    rcases h with h|h
    .rw[<- h];exact⟨h4,h8⟩
    .exact ih m (by omega) h8 h4 a h
 have one:∀{a b:Nat},S a->(a:Int)∈s.has->a<t.nodes.length->Pf t s s.has.length b a=true->S b/\(b:Int)∈s.has:=fun{a b} ha hi hal h=>by
  obtain⟨_,⟨h1,h2⟩|h⟩:=(A1T ht hf).1 h
  .refine⟨?_,h1⟩
   have h5:=h2
   simp only[Ao,and_eq_true,toNat_natCast]at h5
   obtain⟨⟨n1,n2⟩,h3⟩:=h5
   simp only[BZ,and_eq_true,decide_eq_true_eq]at n1 n2
   by_cases c:(t.at b).thread<0
   .rw[if_pos c,decide_eq_true_eq]at h3
    have hd:=(ht.thr_iff (m:=b) (by omega)).1 c
    refine hS a ha hi b ?_
    simp only[Ps,mem_append]
    right
    rw[if_pos h3]
    exact List.mem_map.2 ⟨b,List.mem_range.2 hd,rfl⟩
   .rw[if_neg c]at h3
    exact(up _ a (Nat.lt_succ_self _) hi ha b h3).1
  .have hk:(t.at a).kind=2:=by
    apply Classical.byContradiction
    intro hk
    have:=hF.none a hi (by rw[toNat_natCast];exact hk)
    omega
   obtain⟨q1,_,_⟩:=hF.read a hi (by rw[toNat_natCast];exact hk)
   rw[h]at q1
   refine⟨hS a ha hi b ?_,q1⟩
   simp only[Ps,mem_append]
   left;left
   rw[NW hF.len,h,if_pos (by omega)];simp
 rw[A4n ht h7]at h
 rcases h with h|h
 .have hg:∀{r:Nat},M7 (fun a b=>Pf t s s.has.length b a) t.nodes.length e r->S r/\(r:Int)∈s.has/\r<t.nodes.length:=by
   intro r h
   induction h with
   |one hb h=>obtain⟨a,b⟩:=one h0 he h7 h;exact⟨a,b,hb⟩
   |more _ hc h ih=>obtain⟨a,b⟩:=one ih.1 ih.2.1 ih.2.2 h;exact⟨a,b,hc⟩
  have:=hg h
  exact⟨this.1,this.2.1⟩
 .rw[<- h];exact⟨h0,he⟩
end
def Kl(R:Rows)(e k:Nat):List Int:=((List.range k).filter fun i=>!decide (i=e)&&Bh (R.getD i 0#64) (e:Int)).map fun(i:Nat)=>(i:Int)
def RA(R:Rows)(e:Nat):List Int:=(e:Int)::Kl R e R.length
theorem AhK{R:Rows}{e k:Nat}(h1:decide (k=e)=false)(h2:Bh (R.getD k 0#64) (e:Int)=true):Kl R e (k+1)=Kl R e k++[(k:Int)]:=by
 rw[Kl,List.range_succ,filter_append,List.filter_cons_of_pos (by rw[h1,h2];rfl),List.filter_nil,List.map_append];rfl
theorem A8t{R:Rows}{e k:Nat}(h:(!decide (k=e)&&Bh (R.getD k 0#64) (e:Int))=false):Kl R e (k+1)=Kl R e k:=by
 rw[Kl,List.range_succ,filter_append,List.filter_cons_of_neg (by rw[h];decide),List.filter_nil,List.append_nil];rfl
theorem TE(R:Rows)(e k:Nat):(Kl R e k).length<=k:=by
 rw[Kl,length_map];refine Nat.le_trans (List.length_filter_le _ _) ?_;simp
def LE(t:A2)(a b:List Int):Bool:=a.any fun x=>b.any fun y=>AO t x y
section
variable {V:Ai}(C:Am V){Q:VV->Prop}
include C
theorem Zo(R:Rows)(hR:R.length<=64)(e:Nat)(he:e<64):VP V AdP [lW R,.i .i64 e] Q↔Q (lI (RA R e)):=by
 refine Af ?_
 rw[Ad C.c_z86.1 C.c_z86.2]
 simp only[AiK,go_sem]
 refine Ab (by decide) R.length (by omega) (I:=fun k F h=>A3.tmp F 0=lW R/\A3.tmp F 1=.i .i64 e/\∃L,L=Kl R e k/\A3.tmp F 5=.sl 0 L.length 0 (L.length+1)/\h=[some ⟨AG,1,L.length,false,((e:Int)::L).map eI⟩]) ?_ ?_ ?_ 0 _ _ (Nat.zero_le _) ?_ ?_
 .rintro k F h hk p6 ⟨p0,p1,L,hL,p5,rfl⟩
  simp only[go_sem,p0,p1,p5,p6]
  exact⟨L,hL,rfl,rfl⟩
 .rintro k F h hk p6 ⟨p0,p1,L,hL,p5,rfl⟩
  have h2:=TE R e k
  have b1:(L.length+1+1) * 8<=A6:=by rw[hL];unfold A6;omega
  have h1:decide ((k:Int)=(e:Int))=decide (k=e):=decide_eq_decide.2 ⟨fun h=>by omega,fun h=>by omega⟩
  have h0:=fun(Q:VV->Prop)=>KV C R (k:Int) (e:Int) (by omega) (Q:=Q)
  rw[decide_eq_true (show(0:Int)<=(k:Int) by omega),Bool.true_and,toNat_natCast]at h0
  cases c1:decide (k=e)with
  |true=>
   simp only[go_sem,p0,p1,p5,p6,hk,h1,c1,A0]
   exact⟨L,by rw[A8t (by rw[c1];rfl)];exact hL,rfl,rfl⟩
  |false=>
  cases c2:Bh (R.getD k 0#64) (e:Int)with
  |false=>
   simp only[go_sem,p0,p1,p5,p6,hk,h1,c1,h0,c2,A0]
   exact⟨L,by rw[A8t (by rw[c2,Bool.and_false])];exact hL,rfl,rfl⟩
  |true=>
   simp only[go_sem,p0,p1,p5,p6,hk,h1,c1,h0,c2,b1,length_map,length_cons,A0]
   refine⟨L++[(k:Int)],by rw[AhK c1 c2,hL],by simp,?_⟩
   simp
 .rintro F h ⟨p0,p1,L,hL,p5,rfl⟩
  subst hL
  simp only[go_sem,p0,p1,p5,length_map,length_cons]
  rfl
 .simp only[go_sem]
 .simp only[go_sem]
  exact⟨[],rfl,rfl,rfl,rfl⟩
theorem SQ(t:A2)(hu:J9 t)(a b:List Int)(ha:a.length<=1000)(hb:b.length<=1000):VP V AdQ [vT t,lI a,lI b] Q↔Q (.b (LE t a b)):=by
 refine Af ?_
 rw[Ad C.c_z87.1 C.c_z87.2]
 have h1:=fun(x y:Int) (Q:VV->Prop)=>G8 C t hu x y (Q:=Q)
 have h2:(∀i,i<a.length->∀k,k<b.length->AO t (a.getD i 0) (b.getD k 0)=false)->LE t a b=false:=fun h=>by
  rw[LE,List.any_eq_false]
  intro x hx
  rw[Bool.not_eq_true,List.any_eq_false]
  intro y hy
  obtain⟨i,hi,rfl⟩:=getElem_of_mem hx
  obtain⟨k,hk,rfl⟩:=getElem_of_mem hy
  have:=h i hi k hk
  rw[getD_eq_getElem?_getD,getElem?_eq_getElem hi,getD_eq_getElem?_getD,getElem?_eq_getElem hk]at this
  rw[Bool.not_eq_true];exact this
 have h0:∀{i k:Nat},i<a.length->k<b.length->AO t (a.getD i 0) (b.getD k 0)=true->LE t a b=true:=fun hi hk h=>by
  rw[LE,any_eq_true]
  refine⟨_,Aa (d:=0) hi,?_⟩
  rw[any_eq_true]
  exact⟨_,Aa (d:=0) hk,h⟩
 simp only[AiL,go_sem]
 refine Ab (by decide) a.length (by omega) (I:=fun i F h=>A3.tmp F 1=lI a/\A3.tmp F 2=lI b/\A3.tmp F 3=.fp (eT t) 0/\h=[]/\∀j,j<i->∀k,k<b.length->AO t (a.getD j 0) (b.getD k 0)=false) ?_ ?_ ?_ 0 _ _ (Nat.zero_le _) ?_ ?_
 .rintro i F h hi p7 ⟨p1,p2,p3,rfl,pr⟩
  simp only[go_sem,p7,p1,p2,p3]
  exact pr
 .rintro i F h hi p7 ⟨p1,p2,p3,rfl,pr⟩
  have gA:=Ak hi
  simp only[go_sem,p7,p1,p2,p3,A0]
  refine Ab (by decide) b.length (by omega) (I:=fun k F h=>A3.tmp F 7=.i .i64 i/\A3.tmp F 1=lI a/\A3.tmp F 2=lI b/\A3.tmp F 3=.fp (eT t) 0/\h=[]/\∀j,j<k->AO t (a.getD i 0) (b.getD j 0)=false) ?_ ?_ ?_ 0 _ _ (Nat.zero_le _) ?_ ?_
  .rintro k F h hk q8 ⟨q7,q1,q2,q3,rfl,qr⟩
   simp only[go_sem,q8,q7,q1,q2,q3]
   exact qr
  .rintro k F h hk q8 ⟨q7,q1,q2,q3,rfl,qr⟩
   have gB:=Ak hk
   cases d:AO t (a.getD i 0) (b.getD k 0)with
   |true=>
    have hb:=h0 hi hk d
    simp only[go_sem,q8,q7,q1,q2,q3,gA,gB,hi,hk,h1,d,hb,A0]
   |false=>
    simp only[go_sem,q8,q7,q1,q2,q3,gA,gB,hi,hk,h1,d,A0]
    intro j hj
    rcases Nat.lt_or_ge j k with c|c
    .exact qr j c
    .rw[show j=k by omega];exact d
  .rintro F h ⟨q7,q1,q2,q3,rfl,qr⟩
   simp only[go_sem,q7,q1,q2,q3]
   intro j hj
   rcases Nat.lt_or_ge j i with c|c
   .exact pr j c
   .rw[show j=i by omega];exact qr
  .simp only[go_sem]
  .simp only[go_sem,p7,p1,p2,p3]
   intro j hj;omega
 .rintro F h ⟨p1,p2,p3,rfl,pr⟩
  have hb:=h2 pr
  simp only[go_sem,p1,p2,p3,hb]
 .simp only[go_sem]
 .simp only[go_sem]
  intro j hj;omega
end
end Go.AM
