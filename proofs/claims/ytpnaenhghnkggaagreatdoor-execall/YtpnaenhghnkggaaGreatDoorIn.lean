/-
  Own work, part of the proof of these laws: what comes in is taken into the machine.
-/
import Derived.Test.YtpnaenhghnkggaaGreatDoorAmF
import Derived.ChangeSame
import Derived.ProofKit
import Derived.WalkKit
import Derived.OpenShut
import Derived.ChangeOld
import Derived.Below
import Derived.Carry
import Derived.Lay
import Derived.Handed
set_option maxRecDepth 10000
set_option maxHeartbeats 64000000
set_option linter.unusedVariables false
set_option linter.unusedSimpArgs false
set_option linter.unnecessarySimpa false
namespace Go.AM
open Go Go.Proofs
structure Inn(W:World)(σ:St)(ρ:Re):Prop where
 sim:CU σ ρ W.heap.size W
 nd:Hy σ
 ro:∀id ob,σ.get id=some ob->ob.rw=false
theorem AtL(W:World):Inn W σ0 (fun _=>none) where
 sim:=Aul W
 nd:=fun id _=>A9O id
 ro id ob h:=by rw[A9O]at h;cases h
structure L4(σ:St)(ρ:Re)(σ':St)(ρ':Re):Prop where
 z:∀id ob,σ.get id=some ob->σ'.get id=some ob
 r:∀id rb,ρ id=some rb->ρ' id=some rb
theorem L4.refl(σ:St)(ρ:Re):L4 σ ρ σ ρ:=⟨fun _ _ h=>h,fun _ _ h=>h⟩
theorem L4.trans{a b c:St}{x y z:Re}(h:L4 a x b y)(k:L4 b y c z):L4 a x c z:=⟨fun i o e=>k.z _ _ (h.z _ _ e),fun i o e=>k.r _ _ (h.r _ _ e)⟩
theorem Mp{σ:St}(ob:JQ)(id:Nat):(σ.new ob).get id=if id=σ.next then some ob else σ.get id:=by
 grind[St.new,St.get,Tm.get_set]
def Jt(ρ:Re)(id:Nat)(rb:RB):Re:=fun i=>if i=id then some rb else ρ i
theorem push{W:World}{σ:St}{ρ:Re}(I:Inn W σ ρ)(ty esz:Nat)(ws:List AV)(us:List Value)(blk base:Nat)(hb:blk<W.heap.size)(hR:BO ρ ws us)
  (hc:∀(j:Nat) (u:Value),us[j]? = some u->W.cell? ⟨blk,base+j,none⟩ = some u) (h1:∀u∈us,u.oneCell'=true) :
  Inn W (σ.new ⟨ty,false,esz,ws.length,Tm.ofList ws⟩) (Jt ρ σ.next ⟨blk,base,none⟩)/\L4 σ ρ (σ.new ⟨ty,false,esz,ws.length,Tm.ofList ws⟩) (Jt ρ σ.next ⟨blk,base,none⟩):=by
 have h2:∀id rb,ρ id=some rb->Jt ρ σ.next ⟨blk,base,none⟩ id=some rb:=by
  intro id rb h
  unfold Jt
  by_cases e:id=σ.next
  .rw[e,I.sim.dom _ (Nat.le_refl _)]at h;cases h
  .rw[if_neg e];exact h
 have h0:Le ρ (Jt ρ σ.next ⟨blk,base,none⟩):=h2
 refine⟨⟨⟨?_,?_,?_,?_,I.sim.hB⟩,GX I.nd _,?_⟩,?_,h2⟩
 .intro id ob rb hg hr
  rw[Mp]at hg
  by_cases e:id=σ.next
  .rw[if_pos e]at hg
   cases hg
   unfold Jt at hr
   rw[if_pos e]at hr
   cases hr
   refine⟨?_,fun h=>absurd h Bool.false_ne_true,fun _=>⟨hb,rfl⟩⟩
   intro j v hj hv
   rw[Tm.get_ofList]at hv
   obtain⟨u,hu,h5⟩:=hR.get j v hv
   grind[Cm.mono]
  .rw[if_neg e]at hg
   unfold Jt at hr
   rw[if_neg e]at hr
   have L:=I.sim.live id ob rb hg hr
   refine⟨fun j v hj hv=>?_,L.own,L.ro⟩
   obtain⟨u,a,b,c⟩:=L.cells j v hj hv
   exact⟨u,a,Cm.mono h0 b,c⟩
 .intro id h3
  have:σ.next+1<=id:=h3
  unfold Jt
  rw[if_neg (by omega)]
  exact I.sim.dom id (by omega)
 .exact GX I.nd _
 .intro id h6 ob h7 rb h8 h4 g1 g2 w1 w2
  rw[Mp]at g1
  by_cases e:id=σ.next
  .rw[if_pos e]at g1;cases g1;cases w1
  .rw[if_neg e]at g1
   rw[I.ro id ob g1]at w1;cases w1
 .intro id ob hg
  rw[Mp]at hg
  by_cases e:id=σ.next
  .rw[if_pos e]at hg;cases hg;rfl
  .rw[if_neg e]at hg;exact I.ro id ob hg
 .intro id ob hg
  rw[Mp]
  by_cases e:id=σ.next
  .rw[e,I.nd _ (Nat.le_refl _)]at hg;cases hg
  .rw[if_neg e];exact hg
theorem AcA{W:World}{σ:St}{ρ:Re}(I:Inn W σ ρ)(ty:Nat){a:Addr}(hs:a.spot=none)(hb:a.block<W.heap.size)(rows:List (List VV))(esz:Nat)(hr:∀row∈rows,row.length=esz)(ws:List AV)(us:List Value)(cap:Nat)
  (hcap:rows.length<=cap) (hm:cap<=maxLen) (hlen:ws.length=rows.length * esz) (hR:BO ρ ws us)
  (hc:∀(j:Nat) (u:Value),us[j]? = some u->W.cell? ⟨a.block,a.off+j,none⟩ = some u) (h1:∀u∈us,u.oneCell'=true)
  (hV:∀(i:Nat) (row:List VV) (c:Nat) (v:VV),rows[i]? = some row->row[c]? = some v->∃w,ws[i * esz+c]? = some w/\VR (fun id=>σ.get id) ρ0 v w) :
  ∃σ' ρ' o,Inn W σ' ρ'/\L4 σ ρ σ' ρ'/\VR (fun id=>σ'.get id) ρ0 (.ls rows) (.sl o rows.length)/\Cm ρ' (.sl o rows.length) (.slice (some a) rows.length cap):=by
 obtain⟨I',L⟩:=push I ty esz ws us a.block a.off hb hR hc h1
 refine⟨_,_,some (σ.next,0),I',L,?_,?_⟩
 .refine .ls ρ0 (ob:=⟨ty,false,esz,ws.length,Tm.ofList ws⟩) (fun k=>ws.getD k .un) (by show(σ.new _).get σ.next=_;rw[Mp,if_pos rfl]) hr ?_ ?_
  .intro k hk
   refine⟨by show 0+k<ws.length;omega,?_⟩
   show(Tm.ofList ws).get (0+k)=_
   simp_all[Tm.get_ofList]
  .intro i row c v e1 e2
   obtain⟨w,h1,h2⟩:=hV i row c v e1 e2
   rw[List.getD_eq_getElem?_getD,h1,Option.getD_some]
   exact h2.mono L.z (EQ.refl _)
 .have e:a = ⟨a.block,a.off+0,none⟩:=by cases a;simp at hs;subst hs;rfl
  have k:=Cm.sl (ρ:=Jt ρ σ.next ⟨a.block,a.off,none⟩) σ.next 0 rows.length cap ⟨a.block,a.off,none⟩ (by unfold Jt;rw[if_pos rfl]) hcap hm (fun _ m e h=>by cases h)
  rw[<- e]at k
  exact k
end Go.AM
namespace Go.AM
open Go Go.Proofs Go.ChangeShapes
def NM(P:Program)(t:TypeId)(G:List VV->Prop):Prop:=
 ∀(H:Type) (enc:TypeId×Value->H) (W:World) (base:Nat) (held:Bool) (fuel:Nat) (cs:List Value) (x:DataW H×List MemPlace) (σ:St) (ρ:Re),Inn W σ ρ->DataW.trod enc P W base (fun _=>true) held fuel t cs=some x ->
  ∃σ' ρ' ws vs,Inn W σ' ρ'/\L4 σ ρ σ' ρ'/\Cw (fun id=>σ'.get id) ρ0 vs ws/\BO ρ' ws cs/\(∀u∈cs,u.oneCell'=true)/\G vs
theorem TX{P:Program}{t:TypeId}{k:IntKind}(ht:P.underlying t=some (.int k)):NM P t fun vs=>∃n:Int,vs=[.i k n]/\(Lit.int k n).wf=true:=by
 intro H enc W base h0 fuel cs x σ ρ I h
 obtain⟨n,rfl,rfl,hw⟩:=DataW.trod_int ht h
 refine⟨σ,ρ,[.i k n],[.i k n],I,L4.refl _ _,⟨rfl,fun j v w e1 e2=>?_⟩,.cons _ _ _ _ (.i k n) .nil,?_,n,rfl,hw⟩
 .rcases j with _|j
  .simp at e1 e2;subst e1;subst e2;exact .i _ _ _
  .simp at e1
 .intro u hu
  rw[List.mem_singleton.1 hu];rfl
theorem Cw.app{Z:BQ}{ρ:B6}{a b:List VV}{c d:List AV}(h:Cw Z ρ a c)(k:Cw Z ρ b d):Cw Z ρ (a++b) (c++d):=by
 refine⟨by rw[List.length_append,List.length_append,h.1,k.1],fun j v w e1 e2=>?_⟩
 by_cases c1:j<a.length
 .rw[List.getElem?_append_left c1]at e1
  rw[List.getElem?_append_left (by rw[<- h.1];exact c1)]at e2
  exact h.2 j v w e1 e2
 .rw[List.getElem?_append_right (by omega)]at e1
  rw[List.getElem?_append_right (by rw[<- h.1];omega),<- h.1]at e2
  exact k.2 _ v w e1 e2
theorem AhS{P:Program}{e:TypeId}{G:List VV->Prop}(T:NM P e G){H:Type}{enc:TypeId×Value->H}{W:World}{base:Nat}{held:Bool}{n:Nat}(a:Addr)
  (hne:0<P.cellsOf e):∀(k:Nat) (elems:List (DataW H×List MemPlace)) (hk:k<=elems.length)
  (hel:∀i,i<elems.length->(W.cells? base (a.add (i * P.cellsOf e)) (P.cellsOf e)).bind (DataW.trod enc P W base (fun _=>true) held n e)=elems[i]?) (σ:St) (ρ:Re) (I:Inn W σ ρ),
  ∃(σ':St) (ρ':Re) (rows:List (List VV)) (ws:List AV) (us:List Value),Inn W σ' ρ'/\L4 σ ρ σ' ρ'/\rows.length=k/\(∀row∈rows,row.length=P.cellsOf e/\G row)/\Cw (fun id=>σ'.get id) ρ0 rows.flatten ws/\BO ρ' ws us/\us.length=k * P.cellsOf e /\
   (∀u∈us,u.oneCell'=true)/\∀(j:Nat) (u:Value),us[j]? = some u->W.cell? (a.add j)=some u:=by
 intro k
 induction k with
 |zero=>
  intro elems hk hel σ ρ I
  exact⟨σ,ρ,[],[],[],I,L4.refl _ _,rfl,by simp,⟨rfl,by simp⟩,.nil,by simp,by simp,by simp⟩
 |succ k ih=>
  intro elems hk hel σ ρ I
  obtain⟨σ1,ρ1,rows,ws,us,I1,L1,h1,h2,h3,h4,h5,h6,h7⟩:=ih elems (by omega) hel σ ρ I
  have hx:=hel k (by omega)
  rw[List.getElem?_eq_getElem (by omega),Option.bind_eq_some_iff]at hx
  obtain⟨cs,hc,ht⟩:=hx
  obtain⟨σ2,ρ2,h9,h8,I2,L2,v2,r2,o2,g2⟩:=T H enc W base held n cs _ σ1 ρ1 I1 ht
  obtain⟨c1,c2,c3⟩:=World.cells?_some hc
  have ha:h8.length=P.cellsOf e:=by rw[v2.1,r2.length,c2]
  refine⟨σ2,ρ2,rows++[h8],ws++h9,us++cs,I2,L1.trans L2,by simp[h1],?_,?_,?_,?_,?_,?_⟩
  .grind
  .rw[List.flatten_append]
   refine Cw.app ⟨h3.1,fun j v w e1 e2=>(h3.2 j v w e1 e2).mono L2.z (EQ.refl _)⟩ ?_
   simpa using v2
  .exact(BO.mono L2.r h4).append r2
  .grind
  .grind
  .intro j u hj
   by_cases hlt:j<us.length
   .grind
   .rw[List.getElem?_append_right (by omega)]at hj
    have hb:j-us.length<P.cellsOf e:=by grind
    have:=c3 (j-us.length) hb
    rw[hj,h5]at this
    have h0:k * P.cellsOf e<=j:=by rw[<- h5];omega
    have ea:(a.add (k * P.cellsOf e)).add (j-k * P.cellsOf e)=a.add j:=by
     simp only[Addr.add]
     generalize k * P.cellsOf e=q at h0
     by_cases q0:q=0
     .subst q0;simp
     .by_cases j0:j-q=0
      .rw[if_pos j0,if_neg q0,if_neg (by omega),show j=q by omega]
      .rw[if_neg j0,if_neg q0,if_neg (by omega),Nat.add_assoc,Nat.add_sub_cancel' h0]
    rw[ea]at this
    exact this
theorem RT{α:Type}{n:Nat}:∀(rows:List (List α)),(∀row∈rows,row.length=n)->∀(i:Nat) (row:List α) (c:Nat) (v:α),rows[i]? = some row->row[c]? = some v->rows.flatten[i * n+c]? = some v
 | [],_,i,row,c,v,h,_=>by simp at h
 |r::rs,hr,i,row,c,v,h1,h2=>by
  have hl:r.length=n:=hr r (by simp)
  rw[List.flatten_cons]
  cases i with
  |zero=>
   grind
  |succ i=>
   have ih:=RT rs (fun row h=>hr row (by simp[h])) i row c v (by simpa using h1) h2
   grind
theorem RU{α:Type}{n:Nat}:∀(rows:List (List α)),(∀row∈rows,row.length=n)->rows.flatten.length=rows.length * n
 | [],_=>by simp
 |r::rs,h=>by
  rw[List.flatten_cons,List.length_append,RU rs (fun row k=>h row (by simp[k])),h r (by simp),List.length_cons,Nat.succ_mul,Nat.add_comm]
theorem A1Y{P:Program}{t e:TypeId}{G:List VV->Prop}(ht:P.underlying t=some (.slice e))(hne:0<P.cellsOf e)(T:NM P e G) :
  NM P t fun vs=>∃rows:List (List VV),vs=[.ls rows]/\rows.length<=maxLen/\∀row∈rows,row.length=P.cellsOf e/\G row:=by
 intro H enc W base hp fuel cs x σ ρ I h
 rcases DataW.trod_slice ht h with ⟨rfl,_⟩|⟨a,len,cap,elems,rest,n,_,rfl,rfl,hb,hl,hm,hlen,hel,hsp,_⟩
 .refine⟨σ,ρ,[.sl none 0],[.ls []],I,L4.refl _ _,⟨rfl,fun j v w e1 e2=>?_⟩,.cons _ _ _ _ .sl0 .nil,?_,[],rfl,Nat.zero_le _,by simp⟩
  .rcases j with _|j
   .simp at e1 e2;subst e1;subst e2;exact .ls0 _ _
   .simp at e1
  .intro u hu
   rw[List.mem_singleton.1 hu];rfl
 .obtain⟨σ1,ρ1,rows,ws,us,I1,L1,h1,h2,h3,h4,h5,h6,h7⟩:=AhS T (a:=a) hne len elems (by omega) (fun i hi=>hel i (by omega)) σ ρ I
  by_cases hc0:cap=0
  .subst hc0
   have he:len=0:=by omega
   subst he
   have hr0:rows=[]:=List.length_eq_zero_iff.1 h1
   subst hr0
   have hW:0<W.heap.size\/W.heap.size=0:=by omega
   let ρ2:Re:=Jt ρ1 σ1.next ⟨0,0,none⟩
   let σ2:St:={ σ1 with next:=σ1.next+1 }
   have hk:∀id rb,ρ1 id=some rb->ρ2 id=some rb:=by
    intro id rb h
    show Jt ρ1 σ1.next ⟨0,0,none⟩ id=some rb
    unfold Jt
    by_cases e:id=σ1.next
    .rw[e,I1.sim.dom _ (Nat.le_refl _)]at h;cases h
    .rw[if_neg e];exact h
   have hf:Le ρ1 ρ2:=hk
   have hz:σ1.get σ1.next=none:=I1.nd _ (Nat.le_refl _)
   have hg:∀id,σ2.get id=σ1.get id:=fun id=>rfl
   refine⟨σ2,ρ2,[.sl (some (σ1.next,0)) 0],[.ls []],⟨⟨?_,?_,?_,?_,I1.sim.hB⟩,?_,?_⟩,L1.trans ⟨fun id ob h=>h,hk⟩,⟨rfl,fun j v w e1 e2=>?_⟩,.cons _ _ _ _ (.sle _ _ _ ⟨0,0,none⟩ ?_) .nil,?_,[],rfl,Nat.zero_le _,by simp⟩
   .intro id ob rb ha hr
    rw[hg]at ha
    have hy:id≠σ1.next:=by intro e;rw[e,hz]at ha;cases ha
    have q0:ρ1 id=some rb:=by
     change Jt ρ1 σ1.next ⟨0,0,none⟩ id=some rb at hr
     simp_all[Jt]
    have L:=I1.sim.live id ob rb ha q0
    refine⟨fun j v hj hv=>?_,L.own,L.ro⟩
    obtain⟨u,a,b,c⟩:=L.cells j v hj hv
    exact⟨u,a,Cm.mono hf b,c⟩
   .intro id h9
    have:σ1.next+1<=id:=h9
    show Jt ρ1 σ1.next ⟨0,0,none⟩ id=none
    unfold Jt
    rw[if_neg (by omega)]
    exact I1.sim.dom id (by omega)
   .intro id h9
    have:σ1.next+1<=id:=h9
    exact I1.nd id (by omega)
   .intro id q2 ob q3 rb q4 hne g1 g2 w1 w2
    rw[I1.ro id ob g1]at w1;cases w1
   .intro id h9
    have:σ1.next+1<=id:=h9
    exact I1.nd id (by omega)
   .exact I1.ro
   .rcases j with _|j
    .simp at e1 e2;subst e1;subst e2;exact .ls0 _ _
    .simp at e1
   .show Jt ρ1 σ1.next ⟨0,0,none⟩ σ1.next=_
    unfold Jt
    rw[if_pos rfl]
   .intro u hu
    rw[List.mem_singleton.1 hu];rfl
  .have h0:a.spot=none/\a.block<W.heap.size:=by
    have h8:∃v,W.cell? (a.add 0)=some v:=by
     by_cases he:0<len
     .have hx:=hel 0 he
      rw[List.getElem?_eq_getElem (by omega),Option.bind_eq_some_iff]at hx
      obtain⟨cs,hc,_⟩:=hx
      obtain⟨c1,c2,c3⟩:=World.cells?_some hc
      have:=c3 0 hne
      simp_all[Addr.add]
     .obtain⟨s1,s2⟩:=hsp rfl
      have hx:=s2 0 (by omega)
      rw[List.getElem?_eq_getElem (by omega),Option.bind_eq_some_iff]at hx
      obtain⟨cs,hc,_⟩:=hx
      obtain⟨c1,c2,c3⟩:=World.cells?_some hc
      have:=c3 0 hne
      have hw:len=0:=by omega
      simp_all[Addr.add]
    obtain⟨v,hv⟩:=h8
    have e0:a.add 0=a:=rfl
    rw[e0]at hv
    unfold World.cell? at hv
    split at hv
    .rename_i c _ _ ho
     refine⟨?_,(Array.getElem?_eq_some_iff.1 ho).1⟩
     simp_all
    .cases hv
   have hh:∀row∈rows,row.length=P.cellsOf e:=fun row hr=>(h2 row hr).1
   have hd:∀j,a.add j = ⟨a.block,a.off+j,none⟩:=by
    intro j
    unfold Addr.add
    by_cases j0:j=0
    .subst j0
     obtain⟨b,o,s⟩:=a
     grind
    .rw[if_neg j0]
   have q1:ws.length=rows.length * P.cellsOf e:=by rw[<- h3.1,RU rows hh]
   obtain⟨σ2,ρ2,o,I2,L2,v2,r2⟩:=AcA I1 e h0.1 h0.2 rows (P.cellsOf e) hh ws us cap (by omega) hm q1 h4
    (fun j u hj=>by rw[<- hd];exact h7 j u hj) h6
    (fun i row c v e1 e2=>by
     have hq:=RT rows hh i row c v e1 e2
     have hn:i * P.cellsOf e+c<ws.length:=by rw[<- h3.1];grind
     exact⟨_,List.getElem?_eq_getElem hn,h3.2 _ v _ hq (List.getElem?_eq_getElem hn)⟩)
   refine⟨σ2,ρ2,[.sl o rows.length],[.ls rows],I2,L1.trans L2,⟨rfl,fun j v w e1 e2=>?_⟩,.cons _ _ _ _ (by rw[<- h1];exact r2) .nil,?_,rows,rfl,by omega,h2⟩
   .grind
   .intro u hu
    rw[List.mem_singleton.1 hu];rfl
end Go.AM
namespace Go.AM
open Go Go.Proofs Go.ChangeShapes Go.Shelf
theorem NM.mono{P:Program}{t:TypeId}{G G':List VV->Prop}(T:NM P t G)(h:∀vs,G vs->G' vs):NM P t G':=by
 intro H enc W base h0 fuel cs x σ ρ I hx
 obtain⟨σ',ρ',ws,vs,I',L,v,r,o,g⟩:=T H enc W base h0 fuel cs x σ ρ I hx
 grind
def MV(P:Program)(t:TypeId)(G:VV->Prop):Prop:=
 ∀(H:Type) (enc:TypeId×Value->H) (W:World) (r:Reach) (base b0:Nat) (held:Bool) (u:Value) (d:DataW H) (ps:List MemPlace) (σ:St) (ρ:Re),Inn W σ ρ->Value.okWide P W r b0 t u->DataW.Trod enc P W base (fun _=>true) held t u d ps ->
  ∃σ' ρ' w v,Inn W σ' ρ'/\L4 σ ρ σ' ρ'/\VR (fun id=>σ'.get id) ρ0 v w/\Cm ρ' w u/\G v
theorem S4{P:Program}{t:TypeId}{G:List VV->Prop}{G':VV->Prop}(h1:∀{W r b0 u},Value.okWide P W r b0 t u->u.cells = #[u])(T:NM P t G)(hG:∀v,G [v]->G' v):MV P t G':=by
 intro H enc W r base b0 h0 u d ps σ ρ I hu ⟨fuel,hx⟩
 rw[h1 hu]at hx
 obtain⟨σ',ρ',ws,vs,I',L,v,rr,o,g⟩:=T H enc W base h0 fuel _ _ σ ρ I hx
 cases rr with
 |cons w _ ws' _ hr hs=>
  cases hs
  obtain⟨x,rfl⟩:∃x,vs=[x]:=by
   have:=v.1
   match vs,this with
   | [x],_=>exact⟨x,rfl⟩
  exact⟨σ',ρ',w,x,I',L,v.2 0 x w rfl rfl,hr,hG _ g⟩
def MW(P:Program)(ts:List TypeId)(G:List VV->Prop):Prop:=
 ∀(H:Type) (enc:TypeId×Value->H) (W:World) (r:Reach) (base b0:Nat) (held:Bool) (us:List Value) (ds:List (DataW H)) (ps:List MemPlace) (σ:St) (ρ:Re),Inn W σ ρ->(∀(j:Nat) t u,ts[j]? = some t->us[j]? = some u->Value.okWide P W r b0 t u)->DataW.TrodAll enc P W base (fun _=>true) held ts us ds ps ->
  ∃σ' ρ' ws vs,Inn W σ' ρ'/\L4 σ ρ σ' ρ'/\Cw (fun id=>σ'.get id) ρ0 vs ws/\BO ρ' ws us/\G vs
theorem A5F{P:Program}:MW P [] fun vs=>vs=[]:=by
 intro H enc W r base b0 h0 us ds ps σ ρ I hu h
 match us,ds,h with
 | [],[],_=>exact⟨σ,ρ,[],[],I,L4.refl _ _,⟨rfl,by simp⟩,.nil,rfl⟩
theorem Dv{P:Program}{t:TypeId}{ts:List TypeId}{G:VV->Prop}{Gs:List VV->Prop}(T:MV P t G)(Ts:MW P ts Gs):MW P (t::ts) fun vs=>∃a b,vs=a::b/\G a/\Gs b:=by
 intro H enc W r base b0 h0 us ds ps σ ρ I hu h
 match us,ds,h with
 |u::us,d::ds,⟨p,q,h1,h2,_⟩ =>
  obtain⟨σ1,ρ1,w,v,I1,L1,v1,r1,g1⟩:=T H enc W r base b0 h0 u d p σ ρ I (hu 0 t u rfl rfl) h1
  obtain⟨σ2,ρ2,ws,vs,I2,L2,v2,r2,g2⟩:=Ts H enc W r base b0 h0 us ds q σ1 ρ1 I1 (fun j t u e1 e2=>hu (j+1) t u (by simpa using e1) (by simpa using e2)) h2
  refine⟨σ2,ρ2,w::ws,v::vs,I2,L1.trans L2,⟨by simp[v2.1],fun j x y e1 e2=>?_⟩,.cons _ _ _ _ (Cm.mono L2.r r1) r2,v,vs,rfl,g1,g2⟩
  rcases j with _|j
  .simp at e1 e2;subst e1;subst e2;exact v1.mono L2.z (EQ.refl _)
  .exact v2.2 j x y (by simpa using e1) (by simpa using e2)
theorem A9W{P:Program}{ρs:Ren}(L:Lays7.n29 P ρs){mu muH:Nat->Nat->Nat}{g:Nat}{ts:List TypeId}{G:List VV->Prop}{b:Bool}(T:MW P ts G)(hx:(Gl (Sz P (ρs.f 29)) (ρs.f 29) mu muH).ext g=none)(hm:(Sz P (ρs.f 29)).ext (ρs.f 29)=some ctzX)
  (law:∀vs,G vs->VP (Gl (Sz P (ρs.f 29)) (ρs.f 29) mu muH) g vs fun r=>r=.b b)
  {H:Type} {enc:TypeId×Value->H} {W:World} {r:Reach} {base b0:Nat} {held:Bool} {us:List Value} {ds:List (DataW H)} {ps:List MemPlace} (hu:∀(j:Nat) t u,ts[j]? = some t->us[j]? = some u->Value.okWide P W r b0 t u) (hd:DataW.TrodAll enc P W base (fun _=>true) held ts us ds ps)
  (hT:TabAt (ρs.g 1) Lib.deBruijn64tab W) (hg:ρs.g 1<W.heap.size):Calls P g us.toArray W fun e W'=>e=.returned (.bool b)/\RowKit.Below W.heap.size W W':=by
 obtain⟨σ,ρ,ws,vs,I,_,v,r,gv⟩:=T H enc W _ base b0 held us ds ps σ0 _ (AtL W) hu hd
 have hr:HR (fun id=>σ.get id) ρ0 [] σ:={
  nd:=fun id h=>I.nd id h
  zs:=fun id ob h=>h
  live:=fun i o h=>by simp at h
  nils:=fun i o h=>by simp at h
  inj:=fun i j o o' rid e e' h=>by simp at h
  dom:=fun id ver x h=>by cases h
  rdom:=fun id ver rid e h=>by cases h
  vers:=fun i o ver x h=>by simp at h }
 obtain⟨N,σ',h⟩:=Ahh (A5K (mu:=mu) (muH:=muH) hm) hx (law vs gv) hr v
 refine(top L h I.sim hT hg r).mono fun e W' ⟨u,ρ',h1,h2,h3⟩=>?_
 subst h1
 cases h2
 exact⟨rfl,h3⟩
end Go.AM
namespace Go.AM
open Go Go.Proofs Go.ChangeShapes
theorem A8F{α:Type}{R:α->Prop}(enc:α->List VV):∀(rows:List (List VV)),(∀row∈rows,∃x,row=enc x/\R x)->∃l:List α,rows=l.map enc/\∀x∈l,R x
 | [],_=>⟨[],rfl,by simp⟩
 |r::rs,h=>by
  obtain⟨x,e,hx⟩:=h r (by simp)
  obtain⟨l,e2,hl⟩:=A8F enc rs fun row hr=>h row (by simp[hr])
  refine⟨x::l,by rw[e,e2];rfl,fun y hy=>?_⟩
  grind
theorem Aj5{n:Int}(h:(Lit.int .u8 n).wf=true):∃x:U8,n=(x.n:Int)/\x.n<256:=by
 simp only[Lit.wf,Bool.and_eq_true,decide_eq_true_eq]at h
 have h1:IntKind.u8.min=0:=rfl
 have h2:IntKind.u8.max=255:=rfl
 rw[h1,h2]at h
 exact⟨⟨n.toNat⟩,by show n=((n.toNat:Nat):Int);omega,by show n.toNat<256;omega⟩
theorem Amf{P:Program}{t e:TypeId}(ht:P.underlying t=some (.slice e))(he:P.underlying e=some (.int .u8))(hc:P.cellsOf e=1):MV P t fun v=>∃l:List U8,v=lU l/\∀x∈l,x.n<256:=by
 refine S4 (fun h=>by obtain⟨a,l,c,rfl⟩:=WideShapes.okWide_slice ht h;rfl) (A1Y ht (by omega) (TX he)) ?_
 rintro v ⟨rows,e1,_,h⟩
 obtain⟨l,rfl,hl⟩:=A8F (R:=fun x:U8=>x.n<256) eU rows fun row hr=>by
  obtain⟨_,n,rfl,hn⟩:=h row hr
  obtain⟨x,rfl,hx⟩:=Aj5 hn
  exact⟨x,rfl,hx⟩
 exact⟨l,by simpa using e1,hl⟩
theorem ApM{P:Program}{t:TypeId}(ht:P.underlying t=some (.int .u8)):MV P t fun v=>∃n:Nat,v=.i .u8 (n:Int)/\n<256:=by
 refine S4 (fun h=>by obtain⟨n,rfl⟩:=WideShapes.okWide_int ht h;rfl) (TX ht) ?_
 rintro v ⟨n,e,h⟩
 obtain⟨x,rfl,hx⟩:=Aj5 h
 exact⟨x.n,by simpa using e,hx⟩
end Go.AM
namespace Go.AM
open Go Go.Proofs Go.ChangeShapes Go.Shelf Go.RowKit Go.ChangeAt
theorem A62{H:Type}{enc:TypeId×Value->H}{P:Program}(hl:laidOutB P=true){W W':World}(hb:Below W.heap.size W W'):∀{ts:List TypeId} {vs:List Value} {ds:List (DataW H)} {ps:List MemPlace},
  (∀t∈ts,P.readableRec t=true/\t<P.types.size)->DataW.TrodAll enc P W 0 (fun _=>true) true ts vs ds ps->(∀x∈ps,x.block<W.heap.size) ->
  DataW.TrodAll enc P W' 0 (fun b=>decide (b<W.heap.size)) true ts vs ds ps
 | [],[],[],_,_,h,_=>h
 |t::ts,v::vs,d::ds,ps,hr,⟨p,q,h1,h2,e⟩,hlt=>by
  subst e
  exact⟨p,q,hb.trod hl (hr t (by simp)).1 (hr t (by simp)).2 h1 (fun x hx=>hlt x (by simp[hx])),A62 hl hb (fun t h=>hr t (by simp[h])) h2 (fun x hx=>hlt x (by simp[hx])),rfl⟩
theorem law_row{C:Checked}{os:Os}{f:FuncId}{fn:Func}{s:ChangeSpec}{H:Type}{enc:TypeId×Value->H}{ρs:Ren}(L:Lays7.n29 C.prog ρs){laidL:List (String×DataW Unit)}
  (own:ownKnob C.prog.godebug=none) (started:os.Started) (noInit:C.prog.inits.idxOf? f=none) (hfn:C.prog.funcs[f]? = some fn) {bt:TypeId} (hvars:s.vars=[]) (hres:fn.resultTypes = #[bt]) (hbt:C.prog.underlying bt=some .bool)
  (hspec:∀ds:List (DataW H),ds.length=fn.params.toList.length->(s.fn H ds).results=[.lit (.bool true)]/\(s.fn H ds).args=ds/\(s.fn H ds).vars=[])
  (hl:laidOutB C.prog=true) (hrec:∀t∈fn.params.toList,C.prog.readableRec t=true/\t<C.prog.types.size)
  (witness:∃(w:World) (tape:Tape) (i:Input),w.os=os/\(w.forCall tape i).Shaped C.prog/\i.vars=[]/\Input.okWide C.prog (w.forCall tape i) .any w.heap.size f i /\
   ((s.pre enc C.prog fn [] false (w.forCall tape i).memory i.args/\laidMet C.prog laidL (w.forCall tape i).memory)/\sizedMet enc C.prog fn (OpenSpec.ofChange s) false (w.forCall tape i).memory i.args)/\({}:Assume).holds C.prog (lone (Frame.enter C.prog f i.args .normal) [] (w.forCall tape i)))
  (hT:∀W,laidMet C.prog laidL W->TabAt (ρs.g 1) Lib.deBruijn64tab W)
  {mu muH:Nat->Nat->Nat} {G:List VV->Prop} (T:MW C.prog fn.params.toList G) (hx:(Gl (Sz C.prog (ρs.f 29)) (ρs.f 29) mu muH).ext f=none) (hm:(Sz C.prog (ρs.f 29)).ext (ρs.f 29)=some ctzX)
  (law:∀vs,G vs->VP (Gl (Sz C.prog (ρs.f 29)) (ρs.f 29) mu muH) f vs fun r=>r=.b true) :
  ReturnsInHanded {} C os f .any (fun w args=>(s.pre enc C.prog fn [] false w args/\laidMet C.prog laidL w)/\sizedMet enc C.prog fn (OpenSpec.ofChange s) false w args) (s.post enc C.prog fn false true false false):=by
 refine returnsInHanded_of_change_and (C:=C) (X:=fun w _=>laidMet C.prog laidL w) (fun _ _ _ hh h=>h.of_heap hh) own started noInit hfn witness ?_
 intro W base args ds gs h1 h4 hW _ _ hL _
 have h5:=hW
 obtain⟨p,q,hA,hV,rfl,h6,h7⟩:=hW
 rw[hvars]at hV
 obtain⟨rfl,rfl⟩:=trodVars_none hV
 have ht:=hT W hL
 have h0:=A9W (b:=true) L T hx hm law (us:=args.toList) (fun j t u e1 e2=>h4 j t u (by simpa using e1) (by simpa using e2)) hA ht (Amc ht)
 refine h0.mono fun e W' ⟨he,bel⟩=>?_
 subst he
 have h3:ds.length=fn.params.toList.length:=by
  have:∀{ts:List TypeId} {vs:List Value} {ds:List (DataW H)} {ps:List MemPlace},DataW.TrodAll enc C.prog W 0 (fun _=>true) true ts vs ds ps->ds.length=ts.length:=by
   intro ts
   induction ts with
   |nil=>intro vs ds ps h;match vs,ds,h with | [],[],_=>rfl
   |cons t ts ih=>intro vs ds ps h;match vs,ds,h with|_::_,_::_,⟨_,_,_,h2,_⟩=>simp[ih h2]
  exact this hA
 obtain⟨s1,s2,s3⟩:=hspec ds h3
 refine⟨_,rfl,ds,[],_,[],p,[],h5,?_,?_,?_,bel.frame _,fun h=>by cases h⟩
 .rw[List.append_nil,s1,hres]
  exact trodAll_mk1 (shut_bool hbt _)
 .rw[List.append_nil,s2]
  exact A62 hl bel hrec hA fun x hx=>hA.lt x hx
 .rw[List.append_nil,s3,hvars]
  rfl
end Go.AM
namespace Go.AM
open Go Go.Proofs Go.Shelf Go.ChangeShapes Go.WideShapes Go.ChangeAt Go.RowKit
end Go.AM
namespace Go.AM
open Go Go.Proofs
end Go.AM
