/-
  Own work, part of the proof of these laws: the machine of values is sound.
-/
import Derived.Test.YtpnaenhghnkggaaGreatDoorAmC
set_option maxRecDepth 10000
set_option maxHeartbeats 64000000
set_option linter.unusedVariables false
set_option linter.unusedSimpArgs false
set_option linter.unusedSectionVars false
set_option linter.unnecessarySimpa false
open Bool (and_eq_true not_eq_true')
open List (getElem?_eq_getElem length_take mem_of_getElem? mem_cons)
open Nat (eq_of_beq_eq_true blt_eq zero_add beq_refl mul_le_mul_right le_max_right le_max_left ble_eq add_mul)
namespace Go.AM
open Go
section
variable {Z:BQ}{ρ:B6}{h:VH}{σ:St}
def Ao7(x:VV)(i:Nat):Bool:=match x with|.sl j _ _ _=>Nat.beq i j|.nl=>false|_=>true
theorem Ki{e ty ver:Nat}{nl:Bool}{rows:List (List VV)}(he:0<e)(hr:∀row∈rows,row.length=e):okO { ty:=ty,esz:=e,ver:=ver,nl:=nl,rows:=rows }:=.inr ⟨he,hr⟩
theorem A21(H:HR Z ρ h σ){ty esz bytes:Nat}{x y:VV}{w w':AV}(hx:VR Z ρ x w)(hy:VR Z ρ y w'){v:VV}{h':VH}(e:Lc h ty esz bytes x y=some (v,h')) :
  ∃o n o' m,w=.sl o n/\w'=.sl o' m/\Dh Z ρ h σ v h' (Pm ty esz bytes o n o' m σ) (Ao7 x):=by
 unfold Lc at e
 split at e
 .rename_i n ys hlen hsrc
  cases hb:(Nat.ble ((n+ys.length) * bytes) A6&&Nat.blt 0 esz)with
  |false=>rw[hb]at e;cases e
  |true=>
   rw[hb]at e
   simp only[cond_true]at e
   simp only[and_eq_true,ble_eq,blt_eq]at hb
   obtain⟨hb,hes⟩:=hb
   obtain⟨o',rfl,hyr,cs,hcs,hcl,hcc⟩:=A25 H hes hy hsrc
   have hb':Nat.ble ((n+ys.length) * bytes) A6=true:=by rw[ble_eq];exact hb
   cases x with
   |sl id ver off n0=>
    simp only[M1,Option.some.injEq]at hlen
    subst hlen
    simp only at e
    split at e
    .rename_i o ho
     obtain⟨q1,q2⟩:=Ec ho
     subst q2
     split at e
     .cases e
      obtain⟨oo,rfl⟩:∃oo,w=.sl oo n0:=by cases hx<;>exact⟨_,rfl⟩
      exact⟨oo,n0,o',0,rfl,rfl,Dh.same H (A07 (by simpa using hb) hcs rfl oo) hx⟩
     .rename_i y0 yr
      cases hc:(Nat.beq off 0&&Nat.beq n0 o.rows.length&&(o.nl||(Nat.beq o.ty ty&&Nat.beq o.esz esz)))with
      |false=>rw[hc]at e;cases e
      |true=>
       rw[hc]at e
       simp only[cond_true,Option.some.injEq,Prod.mk.injEq]at e
       obtain⟨rfl,rfl⟩:=e
       simp only[and_eq_true]at hc
       obtain⟨⟨c1,c2⟩,c3⟩:=hc
       have c1:=eq_of_beq_eq_true c1
       have c2:=eq_of_beq_eq_true c2
       subst c1
       have hi:=(List.getElem?_eq_some_iff.1 q1).1
       have hm0:Nat.beq (y0::yr).length 0=false:=rfl
       generalize hys:y0::yr=ys at *
       have hfr:∀x,ρ id (o.ver+1)≠some x:=by
        intro x e
        have:=H.vers _ _ _ _ q1 e
        omega
       let ρ':B6:=fun a b=>if a=id/\b=o.ver+1 then some (some (σ.next,esz))else ρ a b
       have hle:EQ ρ ρ':=by
        intro a b x e
        grind
       have hnew:∀a b x,ρ' a b=some x->ρ a b=some x\/(a=id/\b=o.ver+1/\x=some (σ.next,esz)):=by
        grind
       have hr':ρ' id (o.ver+1)=some (some (σ.next,esz)):=by
        grind
       have hzn:Z σ.next=none:=by
        cases e:Z σ.next with
        |none=>rfl
        |some ob=>have:=CP H.nd (H.zs _ _ e);omega
       cases hn:o.nl with
       |true=>
        obtain⟨k1,k2⟩:=H.nils _ _ q1 hn
        have hn0:n0=0:=by rw[c2,k2];rfl
        subst hn0
        have hw:w=.sl none 0:=by
         cases hx with
         |sl _ _ hρ=>rw[k1]at hρ;cases hρ
         |sn _ hρ=>rfl
        subst hw
        refine⟨none,0,o',ys.length,rfl,rfl,.sl (some (σ.next,0)) ys.length,σ.new { ty:=ty,rw:=true,esz:=esz,len:=ys.length * esz,cs:=Tm.ofList cs },Z,ρ',?_,?_,?_,?_,?_⟩
        .simp only[Pm,hb',cond_true,hcs,hm0,cond_false,beq_refl]
        .have hlen:({ ty:=ty,esz:=esz,ver:=o.ver+1,nl:=false,rows:=o.rows++ys }:VO).len=ys.length * esz:=by
          grind[VO.len,Dm]
         refine H.turn (i:=id) hi (rid':=σ.next) (cs':=Tm.ofList cs) hle hnew (GX H.nd _) (by simp[St.new]) hr' hzn (by simp[St.new]) ?_ ?_ rfl ?_ ?_ ?_ ?_
         .rw[Br,if_pos rfl,hlen]
         .grind[Ki]
         .intro r row c v e1 e2
          simp only[k2,List.nil_append]at e1 ⊢
          obtain⟨w,g1,g2⟩:=hcc r row c v e1 e2
          exact⟨w,by rw[Tm.get_ofList];exact g1,g2.mono (GD.refl _) hle⟩
         .intro j o2 rid e hj h1 h2
          have:=H.rdom _ _ _ _ h2
          grind[D6]
         .intro r ob e1
          have e2:=H.zs _ _ e1
          rw[Br,if_neg (by have:=CP H.nd e2;omega)]
          exact e2
         .intro v2 x e2
          have:=H.vers _ _ _ _ q1 e2
          grind
        .have:=VR.sl (Z:=Z) 0 (0+ys.length) hr'
         simpa using this
        .refine⟨GD.refl _,hle,by simp[St.new],?_,?_,fun _ _ h=>.inl h⟩
         .intro r ob e1 _
          rw[Br,if_neg (by have:=CP H.nd e1;omega)]
          exact e1
         .intro r hl
          rcases Lv.turn (ρ:=ρ) (o':={ ty:=ty,esz:=esz,ver:=o.ver+1,nl:=false,rows:=o.rows++ys }) (rid':=σ.next) hnew hr' hl with h1|h1
          .exact .inl h1
          .exact .inr (by omega)
        grind[D6]
       |false=>
        obtain⟨hok,rid,cs0,k1,k2,k3,k4⟩:=H.live _ _ q1 hn
        have⟨t1,t2⟩:o.ty=ty/\o.esz=esz:=by
         simp_all
        subst t1 t2
        have hrows:∀row∈o.rows,row.length=o.esz:=by
         rcases hok with ⟨h0,_⟩|⟨_,h1⟩
         .omega
         .exact h1
        have hol:o.len=n0 * o.esz:=by unfold VO.len;rw[Dm hrows,c2]
        have hw:w=.sl (some (rid,0)) n0:=by
         cases hx with
         |sl _ _ hρ=>rw[k1]at hρ;cases hρ;simp
         |sn _ hρ=>rw[k1]at hρ;cases hρ
        subst hw
        have hlt:=H.rdom _ _ _ _ k1
        have hnd1:Hy (Ey σ (some rid)):=by
         intro j hj
         rw[KJ]
         split
         .rfl
         .exact H.nd j hj
        have hnx:(Ey σ (some rid)).next=σ.next:=rfl
        have Cf:∀j,j≠rid->j≠σ.next->∀ob,((Ey σ (some rid)).new ob).get j=σ.get j:=by
         simp_all[Br,KJ]
        refine⟨some (rid,0),n0,o',ys.length,rfl,rfl,.sl (some (σ.next,0)) (n0+ys.length),(Ey σ (some rid)).new { ty:=o.ty,rw:=true,esz:=o.esz,len:=(n0+ys.length) * o.esz,cs:=Tm.ofFrom (n0 * o.esz) cs cs0 },Z,ρ',?_,?_,?_,?_,?_⟩
        .have hbl:Nat.beq o.len (n0 * o.esz)=true:=by rw[hol];exact beq_refl _
         simp only[Pm,hb',cond_true,hcs,hm0,cond_false,k3,beq_refl,Bool.and_true,hbl]
        .have hlen:({ ty:=o.ty,esz:=o.esz,ver:=o.ver+1,nl:=false,rows:=o.rows++ys }:VO).len=(n0+ys.length) * o.esz:=by
          unfold VO.len
          rw[Dm (e:=o.esz) (by grind),List.length_append,<- c2]
         refine H.turn (i:=id) hi (rid':=σ.next) (cs':=Tm.ofFrom (n0 * o.esz) cs cs0) hle hnew (GX hnd1 _) (by simp[St.new,hnx]) hr' hzn (by simp[St.new,hnx]) ?_ ?_ rfl ?_ ?_ ?_ ?_
         .rw[Br,hnx,if_pos rfl,hlen]
         .grind[Ki]
         .intro r row c v e1 e2
          simp only at e1 ⊢
          have hc:=(List.getElem?_eq_some_iff.1 e2).1
          rw[Tm.get_ofFrom]
          rw[List.getElem?_append]at e1
          split at e1
          .rename_i hr
           obtain⟨w,g1,g2⟩:=k4 r row c v e1 e2
           rw[hrows row (mem_of_getElem? e1)]at hc
           have:(r+1) * o.esz<=n0 * o.esz:=mul_le_mul_right _ (by omega)
           rw[Nat.succ_mul]at this
           exact⟨w,by rw[if_pos (by omega)];exact g1,g2.mono (GD.refl _) hle⟩
          .rename_i hr
           obtain⟨w,g1,g2⟩:=hcc _ row c v e1 e2
           have hrn:n0 * o.esz+(r-o.rows.length) * o.esz=r * o.esz:=by
            rw[<- add_mul];congr 1;omega
           refine⟨w,?_,g2.mono (GD.refl _) hle⟩
           grind
         .intro j o2 rid2 e hj h1 h2
          have:=H.rdom _ _ _ _ h2
          have hne:rid2≠rid:=by
           rintro rfl
           exact hj (H.inj _ _ _ _ _ _ _ h1 q1 h2 k1)
          grind
         .intro r ob e1
          have e2:=H.zs _ _ e1
          grind
         .intro v2 x e2
          have:=H.vers _ _ _ _ q1 e2
          grind
        .have:=VR.sl (Z:=Z) 0 (n0+ys.length) hr'
         simpa using this
        .refine⟨GD.refl _,hle,by simp[St.new,hnx],?_,?_,fun _ _ h=>.inl h⟩
         .intro r ob e1 hl
          have:=CP H.nd e1
          rw[Cf r (by rintro rfl;exact hl ⟨id,o,o.esz,q1,k1⟩) (by omega)]
          exact e1
         .intro r hl
          rcases Lv.turn (ρ:=ρ) (o':={ ty:=o.ty,esz:=o.esz,ver:=o.ver+1,nl:=false,rows:=o.rows++ys }) (rid':=σ.next) hnew hr' hl with h1|h1
          .exact .inl h1
          .exact .inr (by omega)
        .intro i o2 rid2 e h1 h2 ht
         have:=H.rdom _ _ _ _ h2
         refine Cf rid2 ?_ (by omega) _
         rintro rfl
         have:=H.inj _ _ _ _ _ _ _ h1 q1 h2 k1
         simp_all[Ao7]
    .cases e
   |nl=>
    simp only[M1,Option.some.injEq]at hlen
    subst hlen
    cases hx
    simp only at e
    split at e
    .cases e
     exact⟨none,0,o',0,rfl,rfl,Dh.same H (A07 (by simpa using hb) hcs rfl none) (.nl _)⟩
    .rename_i y0 yr
     simp only[Option.some.injEq,Prod.mk.injEq]at e
     obtain⟨rfl,rfl⟩:=e
     have hm0:Nat.beq (y0::yr).length 0=false:=rfl
     generalize hys:y0::yr=ys at *
     obtain⟨ρ',H',E',r'⟩:=H.push (o:={ ty:=ty,esz:=esz,ver:=0,nl:=false,rows:=ys }) (cs:=Tm.ofList cs) rfl (Ki hes hyr) rfl (by
      grind[Tm.get_ofList])
     have hlen:({ ty:=ty,esz:=esz,ver:=0,nl:=false,rows:=ys }:VO).len=ys.length * esz:=by
      grind[VO.len,Dm]
     rw[hlen]at H' E'
     refine⟨none,0,o',ys.length,rfl,rfl,.sl (some (σ.next,0)) ys.length,_,Z,ρ',?_,H',?_,E',?_⟩
     .simp only[Pm,hb',cond_true,hcs,hm0,cond_false,beq_refl]
     .have:=VR.sl (Z:=Z) 0 ys.length r'
      simpa using this
     grind[D6]
   |ls rows=>cases e
   |_=>simp[M1]at hlen
 .cases e
def Aol(x:VV)(i:Nat):Bool:=match x with|.sl j _ _ _=>Nat.beq i j|_=>true
theorem Aai{esz:Nat}{o:Option (Nat×Nat)}{m k:Nat}{cs:List AV}(hs:GB esz o m σ=some cs)(hk:k<=m):GB esz o k σ=some (cs.take (k * esz)):=by
 unfold GB at hs ⊢
 cases o with
 |none=>
  grind[eq_of_beq_eq_true]
 |some x=>
  grind[A12,mul_le_mul_right,HQ]
theorem AeJ(H:HR Z ρ h σ){esz:Nat}{x y:VV}{w w':AV}(hx:VR Z ρ x w)(hy:VR Z ρ y w'){v:VV}{h':VH}(e:AeI h esz x y=some (v,h')) :
  ∃o n o' m,w=.sl o n/\w'=.sl o' m/\Dh Z ρ h σ v h' (A9r esz o n o' m σ) (Aol x):=by
 unfold AeI at e
 cases x with
 |sl id ver off n=>
  cases hsrc:NH h esz y with
  |none=>rw[hsrc]at e;cases e
  |some ys=>
  rw[hsrc]at e
  simp only at e
  split at e
  .rename_i o ho
   cases hb:(Nat.beq o.esz esz&&!o.nl&&Nat.ble (off+n) o.rows.length&&Nat.blt 0 esz&&ys.all (fun r=>r.all VV.cell))with
   |false=>rw[hb]at e;cases e
   |true=>
    rw[hb]at e
    simp only[cond_true,Option.some.injEq,Prod.mk.injEq]at e
    obtain⟨rfl,rfl⟩:=e
    simp only[and_eq_true,ble_eq,blt_eq,not_eq_true']at hb
    obtain⟨⟨⟨⟨b1,b2⟩,b3⟩,b4⟩,b5⟩:=hb
    have b1:=eq_of_beq_eq_true b1
    subst b1
    obtain⟨q1,q2⟩:=Ec ho
    subst q2
    obtain⟨hok,rid,cs0,k1,k2,k3,k4⟩:=H.live _ _ q1 b2
    have hrows:∀row∈o.rows,row.length=o.esz:=by
     rcases hok with ⟨h0,_⟩|⟨_,h1⟩
     .omega
     .exact h1
    obtain⟨o',rfl,hyr,cs,hcs,hcl,hcc⟩:=A25 H b4 hy hsrc
    have hw:w=.sl (some (rid,off * o.esz)) n:=by
     cases hx with
     |sl _ _ hρ=>rw[k1]at hρ;cases hρ;rfl
     |sn _ hρ=>rw[k1]at hρ;cases hρ
    subst hw
    have hi:=(List.getElem?_eq_some_iff.1 q1).1
    generalize hk:min ys.length n=k
    have hks:=Aai hcs (k:=k) (by omega)
    have hcell:(cs.take (k * o.esz)).all AV.cell=true:=by
     rw[List.all_eq_true]
     intro w hw
     obtain⟨j,hj,ej⟩:=List.mem_iff_getElem.1 hw
     rw[length_take]at hj
     have hd:j / o.esz<ys.length:=by
      rw[Nat.div_lt_iff_lt_mul b4]
      omega
     have hm:=Nat.mod_lt j b4
     have e1:=getElem?_eq_getElem hd
     have l1:=hyr _ (List.getElem_mem hd)
     have e2:(ys[j / o.esz])[j % o.esz]? = some ((ys[j / o.esz])[j % o.esz]'(by omega)):=getElem?_eq_getElem (by omega)
     obtain⟨w2,g1,g2⟩:=hcc _ _ _ _ e1 e2
     have hjj:j / o.esz * o.esz+j % o.esz=j:=by grind[Nat.div_add_mod]
     rw[hjj]at g1
     rw[List.getElem_take]at ej
     have:w2=w:=by
      grind
     rw[<- this]
     refine g2.cell ?_
     grind
    have hol:o.len=o.rows.length * o.esz:=Dm hrows
    have hkl:(cs.take (k * o.esz)).length=k * o.esz:=by
     grind[mul_le_mul_right]
    obtain⟨σ',cs',g1,g2,g3,g4,g5⟩:=TV (cs.take (k * o.esz)) (off * o.esz) σ cs0 k3 (by
     rw[hkl,hol,<- add_mul]
     exact mul_le_mul_right _ (by omega)) hcell
    have hnd:Hy σ':=by
     intro j hj
     rw[g3]at hj
     rw[g4 j (by have:=H.rdom _ _ _ _ k1;omega)]
     exact H.nd j hj
    have hnl:(o.rows.take off++ys.take k++o.rows.drop (off+k)).length=o.rows.length:=by
     grind
    have hrows':∀row∈o.rows.take off++ys.take k++o.rows.drop (off+k),row.length=o.esz:=by
     grind
    have hlen2:({ o with rows:=o.rows.take off++ys.take k++o.rows.drop (off+k) }:VO).len=o.len:=by
     grind[VO.len,Dm]
    have T:=H.turn (i:=id) hi (o':={ o with rows:=o.rows.take off++ys.take k++o.rows.drop (off+k) }) (ρ':=ρ) (σ':=σ') (rid':=rid) (cs':=cs') (EQ.refl _) (fun _ _ _ e=>.inl e) hnd (by omega) k1 k2 (by rw[g3];exact H.rdom _ _ _ _ k1) (by rw[g2,hlen2]) (.inr ⟨b4,hrows'⟩) b2 ?_ ?_ ?_ ?_
    .refine⟨_,_,_,_,rfl,rfl,.i .i64 (k:Nat),σ',Z,ρ,?_,T,.i _ _ _,⟨GD.refl _,EQ.refl _,by omega,?_,?_,fun _ _ h=>.inl h⟩,?_⟩
     .grind[A9r]
     .intro j ob ej hj
      rw[g4 j ?_]
      .exact ej
      .rintro rfl
       exact hj ⟨id,o,o.esz,q1,k1⟩
     .intro j hl
      rcases Lv.turn (ρ:=ρ) (o':={ o with rows:=o.rows.take off++ys.take k++o.rows.drop (off+k) }) (rid':=rid) (fun _ _ _ e=>.inl e) k1 hl with h1|h1
      .exact .inl h1
      .exact .inl ⟨id,o,o.esz,q1,by rw[h1];exact k1⟩
     .intro i o2 r2 e2 p1 p2 p3
      refine g4 r2 ?_
      rintro rfl
      have:=H.inj _ _ _ _ _ _ _ p1 q1 p2 k1
      simp_all[Aol]
    .intro r row c v e1 e2
     simp only at e1 ⊢
     have hc:=(List.getElem?_eq_some_iff.1 e2).1
     rw[hrows' row (mem_of_getElem? e1)]at hc
     rw[g5,hkl]
     have hb1:∀a b:Nat,a<b->(a+1) * o.esz<=b * o.esz:=fun a b h=>mul_le_mul_right _ h
     by_cases c1:r<off
     .grind
     .have hoff:off * o.esz<=r * o.esz:=mul_le_mul_right _ (by omega)
      by_cases c2:r<off+k
      .have:=hb1 r (off+k) c2
       rw[Nat.succ_mul,add_mul]at this
       rw[if_pos (by omega)]
       rw[List.append_assoc,List.getElem?_append_right (by rw[length_take];omega),length_take,Nat.min_eq_left (by omega),List.getElem?_append_left (by rw[length_take];omega),List.getElem?_take_of_lt (by omega)]at e1
       obtain⟨w,p1,p2⟩:=hcc _ row c v e1 e2
       have e3:r * o.esz+c-off * o.esz=(r-off) * o.esz+c:=by
        rw[Nat.sub_mul];omega
       grind
      .have hr2:(off+k) * o.esz<=r * o.esz:=mul_le_mul_right _ (by omega)
       rw[add_mul]at hr2
       rw[if_neg (by omega)]
       rw[List.getElem?_append_right (by grind),List.getElem?_drop]at e1
       have e4:off+k+(r-(List.take off o.rows++List.take k ys).length)=r:=by
        grind
       grind
    .intro j o2 r2 e2 hj p1 p2
     have hne:r2≠rid:=by
      rintro rfl
      exact hj (H.inj _ _ _ _ _ _ _ p1 q1 p2 k1)
     exact⟨g4 r2 hne,hne⟩
    .intro j ob ej
     rw[g4 j ?_]
     .exact H.zs _ _ ej
     grind
    .intro v2 x e2
     exact H.vers id o v2 x q1 e2
  .cases e
 |_=>cases e
theorem Um(H:HR Z ρ h σ){esz n:Nat}{cs:List VV}{ws:List AV}{rs:List (List VV)}{ids:List Nat}(hv:Cw Z ρ cs ws)(hl:cs.length=n * esz)(e:A4d h (CV esz n cs)=some (rs,ids)){ty:Nat} :
  ∃Z',HR Z' ρ (Bw ids h) (σ.new { ty:=ty,rw:=true,esz:=esz,len:=n * esz,cs:=Tm.ofList ws })/\Ev Z ρ h σ Z' ρ (Bw ids h) (σ.new { ty:=ty,rw:=true,esz:=esz,len:=n * esz,cs:=Tm.ofList ws })/\VR Z' ρ (.ls rs) (.sl (some (σ.next,0)) n):=by
 obtain⟨Z1,H1,z1,f1,d1,l1⟩:=H.killAll ids
 obtain⟨g1,g2⟩:=A0M H z1 e f1
 rw[LB]at g1
 subst g1
 obtain⟨H2,E2⟩:=H1.fresh { ty:=ty,rw:=true,esz:=esz,len:=rs.length * esz,cs:=Tm.ofList ws }
 refine⟨_,H2,(Ev.killed z1 d1 l1).trans E2 H.nd,?_⟩
 refine .ls _ (off:=0) (esz:=esz) (cl:=fun j=>ws.getD j AV.un) (by show(if σ.next=σ.next then _ else _)=_;rw[if_pos rfl]) ?_ ?_ ?_
 .intro row hm
  obtain⟨i,hi,ei⟩:=List.mem_iff_getElem.1 hm
  obtain⟨row0,r1,r2,_⟩:=g2 i row (by rw[getElem?_eq_getElem hi,ei])
  grind[Qk]
 .intro k hk
  refine⟨by rw[zero_add];exact hk,?_⟩
  rw[zero_add,Tm.get_ofList]
  have hk':k<ws.length:=by rw[<- hv.1,hl];exact hk
  grind
 .intro i row j v e1 e2
  obtain⟨row0,r1,r2,r3⟩:=g2 i row e1
  obtain⟨v0,q1,q2⟩:=r3 j v e2
  obtain⟨w,p1,p2⟩:=hv.get (NQ r1 q1)
  rw[V8 p1]
  exact(q2 w p2).mono E2.zl (EQ.refl _)
theorem VR.ptr_p{id ver r c:Nat}{w:AV}(hv:VR Z ρ (.p id ver r c) w):∃rid esz,ρ id ver=some (some (rid,esz))/\w=.p (some (rid,r * esz+c)):=by
 cases hv with
 |p _ _ h=>exact⟨_,_,h,rfl⟩
theorem VR.fp_off{cells:List VV}{c k:Nat}{w:AV}(hv:VR Z ρ (.fp cells c) w):∃rid o,w=.p (some (rid,o))/\VR Z ρ (.fp cells (c+k)) (.p (some (rid,o+k))):=by
 cases hv with
 |fp _ _ cl hZ h1 h2=>exact⟨_,_,rfl,by rw[Nat.add_assoc];exact .fp _ _ cl hZ h1 h2⟩
theorem VR.p_off{id ver r c k:Nat}{w:AV}(hv:VR Z ρ (.p id ver r c) w):∃rid o,w=.p (some (rid,o))/\VR Z ρ (.p id ver r (c+k)) (.p (some (rid,o+k))):=by
 obtain⟨rid,esz,h1,rfl⟩:=hv.ptr_p
 exact⟨rid,_,rfl,by rw[Nat.add_assoc];exact .p _ _ h1⟩
theorem Cw.map_ev{F:A3}{G:Fr}(hF:DZ Z ρ F G)(l:List Ar):Cw Z ρ (l.map (A3.ev F)) (l.map (Fr.ev G)):=Cw.of_map fun x _=>hF.ev x
theorem A9N{ps:List VV}{l:List AV}{ids:List Nat}(e:Gt [] (CC l)=some (ps,ids)):∀{Z:BQ},Cw Z ρ0 ps l:=by
 intro Z
 have H0:HR (fun _=>none) ρ0 [] { objs:=.e,next:=0 }:=by
  refine⟨fun _ _=>?_,fun _ _ e=>(by cases e),fun i o e=>(by simp at e),fun i o e=>(by simp at e),fun i j o o' _ _ _ e=>(by simp at e),fun _ _ _ e=>(by simp[ρ0]at e),fun _ _ _ _ e=>(by simp[ρ0]at e),fun i o _ _ e=>(by simp at e)⟩
  simp[St.get,Tm.get_e]
 have:=K3 H0 (GD.refl _) e (Cw.const l) (fun id _ o rid e h1=>by simp at h1)
 exact this.mono (fun _ _ e=>by cases e) (EQ.refl _)
theorem Aek{esz:Nat}{z:List AV}(hz:z.length=esz):∀(n i j:Nat),i<n->j<esz->(List.replicate n z).flatten[i * esz+j]? = z[j]?:=by
 intro n
 induction n with
 |zero=>intro i j h;omega
 |succ n ih=>
  intro i j hi hj
  rw[List.replicate_succ,List.flatten_cons]
  cases i with
  |zero=>grind
  |succ i=>
   grind
theorem Aau{m:Nat}{op:Bl}{F:A3}{G:Fr}{v:VV}{h':VH}(H:HR Z ρ h σ)(hF:DZ Z ρ F G)(e:Df m op F h=some (v,h')):Dh Z ρ h σ v h' (Ap op G σ) (M2 m op F):=by
 cases op with
 |mov x=>
  have hx:=hF.ev x
  have base:∀{v h'},some (A3.ev F x,h)=some (v,h')->Dh Z ρ h σ v h' (Ap (.mov x) G σ) (M2 m (.mov x) F):=by
   intro v h' e
   cases e
   exact Dh.same H rfl hx
  simp only[Df]at e
  split at e
  .generalize hr:AL h.length (A3.ev F x).cells=q at e
   obtain⟨ws,os⟩:=q
   simp only at e
   split at e
   .rename_i cs hcs
    cases e
    rw[hcs]at hx hr
    generalize hw:Fr.ev G x=w at hx
    cases hx with
    |ag a1 a2=>
     rename_i a'
     obtain⟨ρ',H',E',V'⟩:=Hv cs ws os a' hr H ⟨a1,a2⟩
     exact⟨.ag a',σ,Z,ρ',by simp only[Ap,hw],H',.ag V'.1 V'.2,E',fun _ _ _ _ _ _ _=>rfl⟩
   .rename_i hcs
    rw[hcs]at hx hr
    rcases ws with _|⟨w2,_|⟨w3,ws3⟩⟩
    .cases e
    .cases e
     generalize hw:Fr.ev G x=w at hx
     cases hx
     obtain⟨ρ',H',E',V'⟩:=Hv [.nl] [v] os [.sl none 0] hr H (.cons (.nl _) .nil)
     obtain⟨w3,ws3,e3,h3,_⟩:=V'.uncons
     cases e3
     exact⟨.sl none 0,σ,Z,ρ',by simp only[Ap,hw],H',h3,E',fun _ _ _ _ _ _ _=>rfl⟩
    .cases e
   .exact base e
  .split at e
   .rename_i r ids hq
    cases e
    exact(base rfl).freeze H hq
   .cases e
  .exact base e
 |pick c a b=>
  have hc:=hF.ev c
  simp only[Df]at e
  split at e
  .rename_i t ht
   cases e
   rw[ht]at hc
   generalize hw:Fr.ev G c=w at hc
   cases hc
   refine Dh.same H (by simp only[Ap,hw];rfl) ?_
   cases t
   .exact hF.ev b
   .exact hF.ev a
  .cases e
 |box ty n x=>
  have hx:=hF.ev x
  simp only[Df]at e
  cases hc:(Nat.beq (A3.ev F x).cells.length n&&(A3.ev F x).cells.all VV.cell)with
  |false=>rw[hc]at e;cases e
  |true=>
   rw[hc]at e
   simp only[cond_true]at e
   simp only[and_eq_true]at hc
   obtain⟨c1,c2⟩:=hc
   have hcs:=hx.cells c2
   have c1:=eq_of_beq_eq_true c1
   generalize hws:(Fr.ev G x).cells=ws at *
   generalize hvs:(A3.ev F x).cells=cs at *
   have ev:Ap (.box ty n x) G σ=some (.p (some (σ.next,0)),σ.new { ty:=ty,rw:=true,esz:=0,len:=ws.length,cs:=Tm.ofList ws }):=by
    have:Nat.beq ws.length n=true:=by rw[<- hcs.1,c1];exact beq_refl n
    simp only[Ap,hws,this,hcs.cell c2,Bool.and_self,cond_true]
    rw[<- c1,hcs.1]
   rw[ev]
   have hold:({ ty:=ty,esz:=0,ver:=0,nl:=false,rows:=[cs] }:VO).len=ws.length:=by
    unfold VO.len;simp[hcs.1]
   split at e
   .split at e
    .rename_i cs' ids hfz
     cases e
     obtain⟨Z',H',E',V',hz⟩:=A2r H hcs hfz (ty:=ty) (esz:=0)
     exact⟨_,_,Z',ρ,rfl,H',AjA V' hz,E',fun i o rid e h1 h2 _=>D6 H _ i o rid e h1 h2⟩
    .cases e
   .cases e
    obtain⟨ρ',H',E',r'⟩:=H.push (o:={ ty:=ty,esz:=0,ver:=0,nl:=false,rows:=[cs] }) (cs:=Tm.ofList ws) rfl (.inl ⟨rfl,cs,rfl⟩) rfl (by
     intro r row c v e1 e2
     cases r with
     |zero=>
      simp at e1
      subst e1
      obtain⟨w,p1,p2⟩:=hcs.get e2
      grind[Tm.get_ofList]
     |succ r=>simp at e1)
    rw[hold]at H' E'
    refine⟨_,_,Z,ρ',rfl,H',?_,E',fun i o rid e h1 h2 _=>D6 H _ i o rid e h1 h2⟩
    have:=VR.p (Z:=Z) 0 0 r'
    simpa using this
   .generalize hr:AL h.length cs=q at e
    obtain⟨ws',os⟩:=q
    cases e
    obtain⟨ρ1,H1,E1,V1⟩:=Hv cs ws' os ws hr H hcs
    obtain⟨ρ',H',E',r'⟩:=H1.push (o:={ ty:=ty,esz:=0,ver:=0,nl:=false,rows:=[ws'] }) (cs:=Tm.ofList ws) rfl (.inl ⟨rfl,ws',rfl⟩) rfl (by
     intro r row c v e1 e2
     cases r with
     |zero=>
      simp at e1
      subst e1
      obtain⟨w,p1,p2⟩:=V1.get e2
      grind[Tm.get_ofList]
     |succ r=>simp at e1)
    have hold':({ ty:=ty,esz:=0,ver:=0,nl:=false,rows:=[ws'] }:VO).len=ws.length:=by
     unfold VO.len;simp[V1.1]
    rw[hold']at H' E'
    refine⟨_,_,Z,ρ',rfl,H',?_,E1.trans E' H.nd,fun i o rid e h1 h2 _=>D6 H _ i o rid e h1 h2⟩
    have:=VR.p (Z:=Z) 0 0 r'
    simpa using this
 |build zero parts=>
  simp only[Df]at e
  split at e
  .rename_i cs hcs
   obtain⟨ws,h1,h2⟩:=NV hF hcs (Cw.const zero)
   split at e
   .generalize hr:AL h.length cs=q at e
    obtain⟨ws',os⟩:=q
    cases e
    obtain⟨ρ',H',E',V'⟩:=Hv cs ws' os ws hr H h2
    exact⟨.ag ws,σ,Z,ρ',by simp only[Ap,h1],H',.ag V'.1 V'.2,E',fun _ _ _ _ _ _ _=>rfl⟩
   .cases e
    exact Dh.same H (by simp only[Ap,h1]) (.ag h2.1 h2.2)
  .cases e
 |bsl ty esz len zero parts=>
  simp only[Df]at e
  split at e
  .rename_i cs hcs
   cases hc:(Nat.beq cs.length (len * esz)&&Nat.blt 0 esz&&cs.all VV.cell)with
   |false=>rw[hc]at e;cases e
   |true=>
    rw[hc]at e
    simp only[cond_true]at e
    simp only[and_eq_true,blt_eq]at hc
    obtain⟨⟨c1,c2⟩,c3⟩:=hc
    have c1:=eq_of_beq_eq_true c1
    obtain⟨ws,h1,h2⟩:=NV hF hcs (Cw.const zero)
    have ev:Ap (.bsl ty esz len zero parts) G σ=some (.sl (some (σ.next,0)) len,σ.new { ty:=ty,rw:=true,esz:=esz,len:=len * esz,cs:=Tm.ofList ws }):=by simp only[Ap,h1]
    rw[ev]
    split at e
    .split at e
     .rename_i rs ids hfz
      cases e
      obtain⟨Z',H',E',V'⟩:=Um H h2 c1 hfz (ty:=ty)
      exact⟨_,_,Z',ρ,rfl,H',V',E',fun i o rid e h1 h2 _=>D6 H _ i o rid e h1 h2⟩
     .cases e
    .cases e
     have hrow:=Qk c1
     obtain⟨ρ',H',E',r'⟩:=H.push (o:={ ty:=ty,esz:=esz,ver:=0,nl:=false,rows:=CV esz len cs }) (cs:=Tm.ofList ws) rfl (Ki c2 hrow) rfl (by
      intro r row c v e1 e2
      obtain⟨w,p1,p2⟩:=h2.get (NQ e1 e2)
      grind[Tm.get_ofList])
     have hold:({ ty:=ty,esz:=esz,ver:=0,nl:=false,rows:=CV esz len cs }:VO).len=len * esz:=by
      unfold VO.len;rw[Dm hrow,LB]
     rw[hold]at H' E'
     refine⟨_,_,Z,ρ',rfl,H',?_,E',fun i o rid e h1 h2 _=>D6 H _ i o rid e h1 h2⟩
     have:=VR.sl (Z:=Z) 0 len r'
     simpa using this
  .cases e
 |ld n a=>
  simp only[Df]at e
  split at e
  .rename_i v hv
   cases e
   obtain⟨id,off,h1,w,h2,h3⟩:=ZG H (hF.ev a) hv
   simp_all[Dh.same,Ap]
  .cases e
 |st n a x=>
  simp only[Df]at e
  cases hc:Nat.beq (A3.ev F x).cells.length n with
  |false=>rw[hc]at e;cases e
  |true=>
   rw[hc]at e
   simp only[cond_true]at e
   split at e
   .rename_i h2 hs
    cases e
    have hall:(A3.ev F x).cells.all VV.cell=true:=by
     unfold vst at hs
     grind
    have hx:=(hF.ev x).cells hall
    obtain⟨rid,off,σ',p1,p2,H',E',T'⟩:=Ai6 H (hF.ev a) hx hs
    have hl:Nat.beq (Fr.ev G x).cells.length n=true:=by rw[<- hx.1];exact hc
    refine⟨AV.un,σ',Z,ρ,by simp only[Ap,p1,hl,cond_true,p2],H',VR.nul,E',fun i o r e q1 q2 q3=>T' i o r e q1 q2 q3⟩
   .cases e
 |nilc x=>
  have hx:=hF.ev x
  simp only[Df]at e
  split at e
  .rename_i id ver r c hv
   cases e
   rw[hv]at hx
   generalize hw:Fr.ev G x=w at hx
   obtain⟨rid,esz,_,rfl⟩:=hx.ptr_p
   simp_all[Dh.same,Ap]
  .rename_i cells c hv
   cases e
   rw[hv]at hx
   generalize hw:Fr.ev G x=w at hx
   obtain⟨rid,o,rfl,_⟩:=hx.fp_off (k:=0)
   simp_all[Dh.same,Ap]
  .rename_i g a c hv
   cases e
   rw[hv]at hx
   generalize hw:Fr.ev G x=w at hx
   have hx':=hx
   cases hx
   simp_all[Dh.same,Ap]
  .cases e
 |bin op eq x y=>
  simp only[Df]at e
  split at e
  .rename_i v hv
   cases e
   obtain⟨w,h1,h2⟩:=AeG (hF.ev x) (hF.ev y) hv
   simp_all[Dh.same,Ap]
  .cases e
 |not x=>
  have hx:=hF.ev x
  simp only[Df]at e
  split at e
  .rename_i t hv
   cases e
   rw[hv]at hx
   generalize hw:Fr.ev G x=w at hx
   cases hx
   exact Dh.same H (by simp only[Ap,hw]) (.b _ _)
  .cases e
 |neg x=>
  have hx:=hF.ev x
  simp only[Df]at e
  split at e
  .rename_i k n hv
   cases e
   rw[hv]at hx
   generalize hw:Fr.ev G x=w at hx
   cases hx
   exact Dh.same H (by simp only[Ap,hw]) (.i _ _ _)
  .cases e
 |conv k x=>
  have hx:=hF.ev x
  simp only[Df]at e
  split at e
  .rename_i k' n hv
   cases e
   rw[hv]at hx
   generalize hw:Fr.ev G x=w at hx
   cases hx
   exact Dh.same H (by simp only[Ap,hw]) (.i _ _ _)
  .cases e
 |mkf g a c=>
  simp only[Df,Option.some.injEq,Prod.mk.injEq]at e
  obtain⟨rfl,rfl⟩:=e
  exact Dh.same H (by simp only[Ap]) (.f g (Cw.map_ev hF a).1 (Cw.map_ev hF a).2 (Cw.map_ev hF c).1 (Cw.map_ev hF c).2)
 |mks ty esz bytes zero l c=>
  have hl:=hF.ev l
  have hc:=hF.ev c
  simp only[Df]at e
  split at e
  .rename_i n k h1 h2
   rw[h1]at hl
   rw[h2]at hc
   generalize hwl:Fr.ev G l=wl at hl
   generalize hwc:Fr.ev G c=wc at hc
   cases hl
   cases hc
   split at e
   .rename_i hcond
    cases hb:(Nat.beq zero.length esz&&Nat.blt 0 esz&&(CC zero).all VV.cell)with
    |false=>rw[hb]at e;cases e
    |true=>
     rw[hb]at e
     simp only[cond_true]at e
     simp only[and_eq_true,blt_eq]at hb
     obtain⟨⟨b1,b2⟩,b3⟩:=hb
     have b1:=eq_of_beq_eq_true b1
     have ev:Ap (.mks ty esz bytes zero l c) G σ=some (.sl (some (σ.next,0)) n.toNat,σ.new { ty:=ty,rw:=true,esz:=esz,len:=n.toNat * esz,cs:=Tm.ofList ((List.replicate n.toNat zero).flatten) }):=by
      simp_all[Ap]
     rw[ev]
     split at e
     .split at e
      .rename_i z ids hfz
       cases e
       have hz:∀Z:BQ,Cw Z ρ0 z zero:=fun Z=>A9N hfz
       obtain⟨H2,E2⟩:=H.fresh { ty:=ty,rw:=true,esz:=esz,len:=n.toNat * esz,cs:=Tm.ofList ((List.replicate n.toNat zero).flatten) }
       refine⟨_,_,_,ρ,rfl,H2,?_,E2,fun i o rid e h1 h2 _=>D6 H _ i o rid e h1 h2⟩
       have hzl:z.length=esz:=by rw[(hz Z).1,b1]
       have hrl:(List.replicate n.toNat z).length=n.toNat:=by simp
       conv=>arg 4;rw[<- hrl]
       refine .ls _ (off:=0) (esz:=esz) (cl:=fun j=>(List.replicate n.toNat zero).flatten.getD j AV.un) (by show(if σ.next=σ.next then _ else _)=_;rw[if_pos rfl]) ?_ ?_ ?_
       .grind
       .intro k hk
        rw[hrl]at hk
        refine⟨by rw[zero_add];exact hk,?_⟩
        simp_all[Tm.get_ofList]
       .intro i row j v e1 e2
        have hi:=(List.getElem?_eq_some_iff.1 e1).1
        rw[hrl]at hi
        have hrow:row=z:=List.eq_of_mem_replicate (mem_of_getElem? e1)
        subst hrow
        have hj:=(List.getElem?_eq_some_iff.1 e2).1
        rw[hzl]at hj
        obtain⟨w,q1,q2⟩:=(hz _).get e2
        rw[V8 (by rw[Aek b1 _ _ _ hi hj];exact q1)]
        exact q2
      .cases e
     .cases e
      have hrow:∀row∈List.replicate n.toNat (CC zero),row.length=esz:=by
       intro row hm
       rw[List.eq_of_mem_replicate hm,(Cw.const (Z:=Z) (ρ:=ρ) zero).1,b1]
      obtain⟨ρ',H',E',r'⟩:=H.push (o:={ ty:=ty,esz:=esz,ver:=0,nl:=false,rows:=List.replicate n.toNat (CC zero) }) (cs:=Tm.ofList ((List.replicate n.toNat zero).flatten)) rfl (Ki b2 hrow) rfl (by
       intro r row c v e1 e2
       have hi:=(List.getElem?_eq_some_iff.1 e1).1
       simp only[List.length_replicate]at hi
       have hr:row=CC zero:=List.eq_of_mem_replicate (mem_of_getElem? e1)
       subst hr
       have hj:=(List.getElem?_eq_some_iff.1 e2).1
       rw[(Cw.const (Z:=Z) (ρ:=ρ) zero).1,b1]at hj
       obtain⟨w,q1,q2⟩:=(Cw.const (Z:=Z) (ρ:=ρ) zero).get e2
       grind[Tm.get_ofList,Aek])
      have hold:({ ty:=ty,esz:=esz,ver:=0,nl:=false,rows:=List.replicate n.toNat (CC zero) }:VO).len=n.toNat * esz:=by
       unfold VO.len;rw[Dm hrow,List.length_replicate]
      rw[hold]at H' E'
      refine⟨_,_,Z,ρ',rfl,H',?_,E',fun i o rid e h1 h2 _=>D6 H _ i o rid e h1 h2⟩
      have:=VR.sl (Z:=Z) 0 n.toNat r'
      simpa using this
   .cases e
  .cases e
 |slc esz x lo hi=>
  simp only[Df]at e
  split at e
  .rename_i v hv
   cases e
   obtain⟨w,h1,h2⟩:=AeN H hF (hF.ev x) hv
   simp_all[Dh.same,Ap]
  .cases e
 |fa off x=>
  have hx:=hF.ev x
  simp only[Df]at e
  split at e
  .rename_i id ver r c hv
   cases e
   rw[hv]at hx
   generalize hw:Fr.ev G x=w at hx
   obtain⟨rid,o,rfl,h2⟩:=hx.p_off (k:=off)
   simp_all[Dh.same,Ap]
  .rename_i cells c hv
   cases e
   rw[hv]at hx
   generalize hw:Fr.ev G x=w at hx
   obtain⟨rid,o,rfl,h2⟩:=hx.fp_off (k:=off)
   simp_all[Dh.same,Ap]
  .cases e
 |ia esz x i=>
  have hx:=hF.ev x
  have hi:=hF.ev i
  simp only[Df]at e
  split at e
  .rename_i rows k n h1 h2
   rw[h1]at hx
   rw[h2]at hi
   generalize hwx:Fr.ev G x=wx at hx
   generalize hwi:Fr.ev G i=wi at hi
   cases hi
   split at e
   .rename_i h0
    split at e
    .rename_i row hrow
     cases hb:Nat.beq row.length esz with
     |false=>rw[hb]at e;cases e
     |true=>
      rw[hb]at e
      cases e
      have hb:=eq_of_beq_eq_true hb
      have hn:=(List.getElem?_eq_some_iff.1 hrow).1
      rcases hx.ls_inv with ⟨rfl,_⟩|⟨rid,off,esz',ob,cl,hne,rfl,hZ,hr,g1,g2⟩
      .simp at hrow
      .have hee:esz'=esz:=by grind
       subst hee
       refine Dh.same H (w:=.p (some (rid,off+n.toNat * esz'))) ?_ ?_
       .simp_all[Ap]
       .have:=VR.fp (Z:=Z) ρ (cells:=row) 0 (rid:=rid) (base:=off+n.toNat * esz') (cl:=fun j=>cl (n.toNat * esz' + j)) hZ ?_ ?_
        .simpa using this
        .intro j hj
         rw[hb]at hj
         have:(n.toNat+1) * esz'<=rows.length * esz':=mul_le_mul_right _ hn
         grind
        grind
    .cases e
   .cases e
  .rename_i id ver off len k n h1 h2
   rw[h1]at hx
   rw[h2]at hi
   generalize hwx:Fr.ev G x=wx at hx
   generalize hwi:Fr.ev G i=wi at hi
   cases hi
   split at e
   .rename_i h0
    split at e
    .rename_i o ho
     cases hb:(Nat.beq o.esz esz&&!o.nl)with
     |false=>rw[hb]at e;cases e
     |true=>
      rw[hb]at e
      cases e
      simp only[and_eq_true,not_eq_true']at hb
      have b1:=eq_of_beq_eq_true hb.1
      obtain⟨q1,q2⟩:=Ec ho
      subst q2
      obtain⟨hok,rid,cs,k1,_⟩:=H.live _ _ q1 hb.2
      cases hx with
      |sn _ hρ=>rw[k1]at hρ;cases hρ
      |sl _ _ hρ=>
       rw[k1]at hρ
       cases hρ
       refine Dh.same H (w:=.p (some (rid,off * o.esz+n.toNat * esz))) ?_ ?_
       .simp_all[Ap]
       .have:=VR.p (Z:=Z) (off+n.toNat) 0 k1
        grind
    .cases e
   .cases e
  .cases e
 |iaa len esz x i=>
  have hx:=hF.ev x
  have hi:=hF.ev i
  simp only[Df]at e
  split at e
  .rename_i id ver r c k n h1 h2
   rw[h1]at hx
   rw[h2]at hi
   generalize hwx:Fr.ev G x=wx at hx
   generalize hwi:Fr.ev G i=wi at hi
   cases hi
   split at e
   .rename_i h0
    cases e
    obtain⟨rid,o,rfl,h3⟩:=hx.p_off (k:=n.toNat * esz)
    simp_all[Dh.same,Ap]
   .cases e
  .rename_i cells c k n h1 h2
   rw[h1]at hx
   rw[h2]at hi
   generalize hwx:Fr.ev G x=wx at hx
   generalize hwi:Fr.ev G i=wi at hi
   cases hi
   split at e
   .rename_i h0
    cases e
    obtain⟨rid,o,rfl,h3⟩:=hx.fp_off (k:=n.toNat * esz)
    simp_all[Dh.same,Ap]
   .cases e
  .cases e
 |ix x i=>
  have hx:=hF.ev x
  have hi:=hF.ev i
  simp only[Df]at e
  split at e
  .rename_i s k n h1 h2
   rw[h1]at hx
   rw[h2]at hi
   generalize hwx:Fr.ev G x=wx at hx
   generalize hwi:Fr.ev G i=wi at hi
   cases hi
   cases hx
   split at e
   .rename_i h0
    split at e
    .rename_i b hb
     cases e
     refine Dh.same H ?_ (.i _ _ _)
     simp_all[Ap]
    .cases e
   .cases e
  .cases e
 |ext x i=>
  have hx:=hF.ev x
  simp only[Df]at e
  split at e
  .rename_i vs hv
   split at e
   .rename_i v hvi
    cases e
    rw[hv]at hx
    generalize hw:Fr.ev G x=w at hx
    cases hx with
    |tu a1 a2=>
     obtain⟨w,p1,p2⟩:=Cw.get ⟨a1,a2⟩ hvi
     simp_all[Dh.same,Ap]
   .cases e
  .cases e
 |len str x=>
  have hx:=hF.ev x
  simp only[Df]at e
  split at e
  .rename_i s hv
   cases e
   rw[hv]at hx
   generalize hw:Fr.ev G x=w at hx
   cases hx
   exact Dh.same H (by simp only[Ap,hw]) (.i _ _ _)
  .split at e
   .rename_i n hn
    cases e
    have:∃o,Fr.ev G x=.sl o n:=by
     generalize Fr.ev G x=w at hx
     generalize A3.ev F x=v at hx hn
     cases v with
     |nl=>cases hx;cases hn;exact⟨_,rfl⟩
     |ls rows=>obtain⟨o,rfl⟩:=hx.ls_len;cases hn;exact⟨o,rfl⟩
     |sl id ver off k=>cases hn;cases hx<;>exact⟨_,rfl⟩
     |_=>simp[M1]at hn
    obtain⟨o,ho⟩:=this
    exact Dh.same H (by simp only[Ap,ho]) (.i _ _ _)
   .cases e
  .cases e
 |app ty esz bytes x y=>
  simp only[Df,Ph]at e
  split at e
  .split at e
   .rename_i v1 h1 e1
    obtain⟨o,n,o',k,g1,g2,g3⟩:=A21 H (hF.ev x) (hF.ev y) e1
    have:Ap (.app ty esz bytes x y) G σ=Pm ty esz bytes o n o' k σ:=by simp only[Ap,g1,g2]
    rw[this]
    split at e
    .rename_i r ids hq
     cases e
     exact g3.freeze H hq
    .cases e
   .cases e
  .obtain⟨o,n,o',k,h1,h2,h3⟩:=A21 H (hF.ev x) (hF.ev y) e
   have:Ap (.app ty esz bytes x y) G σ=Pm ty esz bytes o n o' k σ:=by simp only[Ap,h1,h2]
   rw[this]
   exact h3
 |cpy esz x y=>
  simp only[Df]at e
  obtain⟨o,n,o',k,h1,h2,h3⟩:=AeJ H (hF.ev x) (hF.ev y) e
  have:Ap (.cpy esz x y) G σ=A9r esz o n o' k σ:=by simp only[Ap,h1,h2]
  rw[this]
  exact h3
 |mnx mx x y=>
  have hx:=hF.ev x
  have hy:=hF.ev y
  simp only[Df]at e
  split at e
  .rename_i k a k' c h1 h2
   rw[h1]at hx
   rw[h2]at hy
   generalize hwx:Fr.ev G x=wx at hx
   generalize hwy:Fr.ev G y=wy at hy
   cases hx
   cases hy
   split at e
   .rename_i h0
    cases e
    refine Dh.same H ?_ (.i _ _ _)
    simp_all[Ap]
   .cases e
  .cases e
 |call f args=>simp[Df]at e
 |fail=>simp[Df]at e
end
theorem GN{L:Nat}:∀{vs:List VV},CK L vs=true↔∀v∈vs,bel L v=true:=by
 intro vs
 induction vs with
 |nil=>simp[CK]
 |cons v vs ih=>simp[CK,ih]
theorem Ajz{Z:BQ}{ρ:B6}{L:Nat}(hd:∀id ver x,ρ id ver=some x->id<L){v:VV}{w:AV}(h:VR Z ρ v w):bel L v=true:=by
 have key:∀{ρ':B6} {v:VV} {w:AV},VR Z ρ' v w->(∀id ver x,ρ' id ver=some x->id<L)->bel L v=true:=by
  intro ρ' v w h
  induction h with
  |p r c h=>grind[bel,blt_eq]
  |sl off n h=>grind[bel,blt_eq]
  |sn off h=>grind[bel,blt_eq]
  |f g h1 h2 h3 h4 ih1 ih2=>
   intro hd
   simp only[bel,and_eq_true,GN]
   constructor
   .intro v hv
    obtain⟨j,hj,e⟩:=List.mem_iff_getElem.1 hv
    exact ih1 j v _ (by rw[getElem?_eq_getElem hj,e]) (getElem?_eq_getElem (by omega)) hd
   .intro v hv
    obtain⟨j,hj,e⟩:=List.mem_iff_getElem.1 hv
    exact ih2 j v _ (by rw[getElem?_eq_getElem hj,e]) (getElem?_eq_getElem (by omega)) hd
  |ag h1 h2 ih=>
   intro hd
   simp only[bel,GN]
   intro v hv
   obtain⟨j,hj,e⟩:=List.mem_iff_getElem.1 hv
   exact ih j v _ (by rw[getElem?_eq_getElem hj,e]) (getElem?_eq_getElem (by omega)) hd
  |tu h1 h2 ih=>
   intro hd
   simp only[bel,GN]
   intro v hv
   obtain⟨j,hj,e⟩:=List.mem_iff_getElem.1 hv
   exact ih j v _ (by rw[getElem?_eq_getElem hj,e]) (getElem?_eq_getElem (by omega)) hd
  |_=>intro hd;rfl
 exact key h hd
def La(ρ:B6)(L:Nat):B6:=fun id ver=>if id<L then ρ id ver else none
theorem VR.restrict{Z:BQ}{ρ:B6}{L:Nat}{v:VV}{w:AV}(h:VR Z ρ v w):bel L v=true->VR Z (La ρ L) v w:=by
 induction h with
 |un=>intro _;exact .un _ _
 |b=>intro _;exact .b _ _
 |i=>intro _;exact .i _ _ _
 |s=>intro _;exact .s _ _
 |nf=>intro _;exact .nf _
 |np=>intro _;exact .np _
 |nl=>intro _;exact .nl _
 |p r c h=>intro hb;simp only[bel,blt_eq]at hb;exact .p _ _ (by unfold La;rw[if_pos hb];exact h)
 |fp _ c cl hZ h1 h2=>intro _;exact .fp _ _ cl hZ h1 h2
 |sl off n h=>intro hb;simp only[bel,blt_eq]at hb;exact .sl _ _ (by unfold La;rw[if_pos hb];exact h)
 |sn off h=>intro hb;simp only[bel,blt_eq]at hb;exact .sn _ (by unfold La;rw[if_pos hb];exact h)
 |ls0=>intro _;exact .ls0 _ _
 |ls _ cl hZ hr h1 h2=>intro _;exact .ls _ cl hZ hr h1 h2
 |f g h1 h2 h3 h4 ih1 ih2=>
  intro hb
  simp only[bel,and_eq_true,GN]at hb
  exact .f g h1 (fun j v w e1 e2=>ih1 j v w e1 e2 (hb.1 v (mem_of_getElem? e1))) h3 (fun j v w e1 e2=>ih2 j v w e1 e2 (hb.2 v (mem_of_getElem? e1)))
 |ag h1 h2 ih=>
  intro hb
  simp only[bel,GN]at hb
  exact .ag h1 fun j v w e1 e2=>ih j v w e1 e2 (hb v (mem_of_getElem? e1))
 |tu h1 h2 ih=>
  intro hb
  simp only[bel,GN]at hb
  exact .tu h1 fun j v w e1 e2=>ih j v w e1 e2 (hb v (mem_of_getElem? e1))
theorem AlS{L:Nat}:∀{h h':VH},LT L h h'->h.length<=h'.length/\∀(i:Nat) (o:VO),i<h.length->h'[i]? = some (some o)->h[i]? = some (some o)\/o.rows.all (CK L)=true:=by
 intro h
 induction h with
 |nil=>grind
 |cons x h ih=>
  intro h' hk
  cases h' with
  |nil=>exact hk.elim
  |cons y h'=>
   obtain⟨h1,h2⟩:=hk
   grind
section
variable {Z Z':BQ}{ρ ρ':B6}{h h':VH}{σ σ':St}
theorem J1{h:VH}{L i:Nat}{x:Option VO}(e:(h.take L)[i]? = some x):i<L/\h[i]? = some x:=by
 grind
theorem HR.cut(H:HR Z ρ h σ)(H':HR Z' ρ' h' σ')(hr:EQ ρ ρ')(hk:LT h.length h h'):HR Z' (La ρ' h.length) (h'.take h.length) σ'/\EQ ρ (La ρ' h.length)/\(∀r,Lv (La ρ' h.length) (h'.take h.length) r->Lv ρ' h' r)/\∀F G,DZ Z' ρ' F G->DZ Z' (La ρ' h.length) (Ew h.length F) G:=by
 obtain⟨hl,hat⟩:=AlS hk
 have hc:∀id ver x,La ρ' h.length id ver=some x->id<h.length/\ρ' id ver=some x:=by
  grind[La]
 have hc':∀id ver,id<h.length->La ρ' h.length id ver=ρ' id ver:=fun id ver hi=>by unfold La;rw[if_pos hi]
 have hrl:EQ ρ (La ρ' h.length):=by
  intro id ver x e
  rw[hc' _ _ (H.dom _ _ _ e)]
  exact hr _ _ _ e
 refine⟨⟨H'.nd,H'.zs,?_,?_,?_,?_,?_,?_⟩,hrl,?_,?_⟩
 .intro i o e hn
  obtain⟨hi,e⟩:=J1 e
  obtain⟨k0,rid,cs,k1,k2,k3,k4⟩:=H'.live i o e hn
  refine⟨k0,rid,cs,by rw[hc' _ _ hi];exact k1,k2,k3,fun r row c v e1 e2=>?_⟩
  obtain⟨w,hw,hv⟩:=k4 r row c v e1 e2
  refine⟨w,hw,hv.restrict ?_⟩
  rcases hat i o hi e with h1|h1
  .obtain⟨_,rid0,cs0,_,_,_,q4⟩:=H.live i o h1 hn
   obtain⟨w0,_,hv0⟩:=q4 r row c v e1 e2
   exact Ajz (fun id ver x e=>H.dom id ver x e) hv0
  .have:=List.all_eq_true.1 h1 row (mem_of_getElem? e1)
   grind[GN]
 .intro i o e hn
  obtain⟨hi,e⟩:=J1 e
  rw[hc' _ _ hi]
  exact H'.nils i o e hn
 .intro i j o o' rid e e' h1 h2 h3 h4
  exact H'.inj _ _ _ _ _ _ _ (J1 h1).2 (J1 h2).2 (hc _ _ _ h3).2 (hc _ _ _ h4).2
 .grind
 .intro id ver rid e h1
  exact H'.rdom _ _ _ _ (hc _ _ _ h1).2
 .intro i o ver x e1 e2
  exact H'.vers _ _ _ _ (J1 e1).2 (hc _ _ _ e2).2
 .rintro r ⟨i,o,e,h1,h2⟩
  exact⟨i,o,e,(J1 h1).2,(hc _ _ _ h2).2⟩
 .intro F G hF t
  rw[KZ]
  unfold Mi
  cases hb:bel h.length (A3.tmp F t)with
  |true=>rw[cond_true];exact(hF t).restrict hb
  |false=>rw[cond_false];exact .un _ _
theorem HR.after(H:HR Z ρ h σ)(hz:GD Z Z')(hk:∀id ob,σ.get id=some ob->σ'.get id=some ob)(nd:Hy σ')(nx:σ.next<=σ'.next)(zs:∀id ob,Z' id=some ob->σ'.get id=some ob)(hd:∀r ob,Z' r=some ob->Z r=some ob\/σ.next<=r):HR Z' ρ h σ' where
 nd:=nd
 zs:=zs
 live:=fun i o e hn=>by
  obtain⟨k0,rid,cs,k1,k2,k3,k4⟩:=H.live i o e hn
  refine⟨k0,rid,cs,k1,?_,hk _ _ k3,fun r row c v e1 e2=>?_⟩
  .cases e:Z' rid with
   |none=>rfl
   |some ob=>
    rcases hd _ _ e with h1|h1
    .rw[k2]at h1;cases h1
    .have:=H.rdom _ _ _ _ k1;omega
  .obtain⟨w,hw,hv⟩:=k4 r row c v e1 e2
   exact⟨w,hw,hv.mono hz (EQ.refl _)⟩
 nils:=H.nils
 inj:=H.inj
 dom:=H.dom
 rdom:=fun id ver rid e h1=>Nat.lt_of_lt_of_le (H.rdom _ _ _ _ h1) nx
 vers:=H.vers
theorem HR.empty(nd:Hy σ)(zs:∀id ob,Z id=some ob->σ.get id=some ob):HR Z ρ0 [] σ:=
 ⟨nd,zs,fun i o e=>(by simp at e),fun i o e=>(by simp at e),fun i j o o' _ _ _ e=>(by simp at e),fun _ _ _ e=>(by simp[ρ0]at e),fun _ _ _ _ e=>(by simp[ρ0]at e),fun i o _ _ e=>(by simp at e)⟩
theorem Lv.empty{r:Nat}:¬Lv ρ0 [] r:=by rintro⟨i,o,e,h1,_⟩;simp at h1
theorem TO:∀{vs:List VV},MI vs=true↔∀v∈vs,scal v=true:=by
 intro vs
 induction vs with
 |nil=>simp[MI]
 |cons v vs ih=>simp[MI,ih]
theorem VR.scal{v:VV}{w:AV}(h:VR Z ρ v w):scal v=true->VR Z' ρ' v w:=by
 induction h with
 |b=>intro _;exact .b _ _
 |i=>intro _;exact .i _ _ _
 |s=>intro _;exact .s _ _
 |nf=>intro _;exact .nf _
 |np=>intro _;exact .np _
 |tu h1 h2 ih=>
  intro hb
  simp only[Go.AM.scal,TO]at hb
  exact .tu h1 fun j v w e1 e2=>ih j v w e1 e2 (hb v (mem_of_getElem? e1))
 |_=>intro hb;simp[Go.AM.scal]at hb
end
def JT(ρ:B6)(h:VH)(ids:List Nat)(r:Nat):Prop:=∃id∈ids,∃(o:VO) (e:Nat),h[id]? = some (some o)/\ρ id o.ver=some (some (r,e))
section
variable {Z2 Zc:BQ}{ρ2:B6}{h2:VH}{σ:St}(H2:HR Z2 ρ2 h2 σ)(hz:GD Z2 Zc)
include H2 hz
def AaR(Zc Z2:BQ)(ρ2:B6)(h2:VH)(σ:St)(ρ:B6)(hk:VH)(T:Ta)(rel:B6->Prop):Prop:=
 (∀r,JT ρ2 h2 T.moved r->Zc r=none/\¬Lv ρ hk r)->T.moved.Nodup->U9 Zc ρ2 h2 σ T.frozen ->
  ∃ρ',HR Zc ρ' (hk++T.objs) σ/\EQ ρ ρ'/\rel ρ'/\∀r,Lv ρ' (hk++T.objs) r->Lv ρ hk r\/JT ρ2 h2 T.moved r
theorem Aap:∀(d:Nat) (base:Nat) (v r:VV) (T:Ta) (w:AV) (hk:VH) (ρ:B6),Bp h2 d base v=some (r,T)->base=hk.length->HR Zc ρ hk σ->VR Z2 ρ2 v w->AaR Zc Z2 ρ2 h2 σ ρ hk T (fun ρ'=>VR Zc ρ' r w):=by
 intro d
 induction d with
 |zero=>grind[Bp]
 |succ d ih=>
  have ihL:∀(vs:List VV) (base:Nat) (rs:List VV) (T:Ta) (ws:List AV) (hk:VH) (ρ:B6),Bp.takeL h2 d base vs=some (rs,T)->base=hk.length->HR Zc ρ hk σ->Cw Z2 ρ2 vs ws->AaR Zc Z2 ρ2 h2 σ ρ hk T (fun ρ'=>Cw Zc ρ' rs ws):=by
   intro vs
   induction vs with
   |nil=>
    intro base rs T ws hk ρ e hb Hk hv _ _ _
    simp only[Bp.takeL,Option.some.injEq,Prod.mk.injEq]at e
    obtain⟨rfl,rfl⟩:=e
    have:ws=[]:=List.length_eq_zero_iff.1 hv.1.symm
    subst this
    simp only[List.append_nil]
    exact⟨ρ,Hk,EQ.refl _,.nil,fun r h=>.inl h⟩
   |cons v vs ihv=>
    intro base rs T ws hk ρ e hb Hk hv hm hnd hfz
    simp only[Bp.takeL]at e
    split at e
    .rename_i r1 T1 h1
     split at e
     .rename_i rs1 T2 h3
      cases e
      obtain⟨w,ws,rfl,k1,k2⟩:=hv.uncons
      simp only at hm hnd hfz
      rw[List.nodup_append]at hnd
      obtain⟨n1,n2,n3⟩:=hnd
      have mem1:∀r,JT ρ2 h2 T1.moved r->JT ρ2 h2 (T1.moved++T2.moved) r:=by
       rintro r ⟨id,hid,x⟩;exact⟨id,by simp[hid],x⟩
      have mem2:∀r,JT ρ2 h2 T2.moved r->JT ρ2 h2 (T1.moved++T2.moved) r:=by
       rintro r ⟨id,hid,x⟩;exact⟨id,by simp[hid],x⟩
      obtain⟨ρ1,H1,r1',v1,l1⟩:=ih base v r1 T1 w hk ρ h1 hb Hk k1 (fun r hr=>hm r (mem1 r hr)) n1 (fun id hid=>hfz id (by simp[hid]))
      have hb2:base+T1.objs.length=(hk++T1.objs).length:=by rw[List.length_append,hb]
      obtain⟨ρ',H',r',v',l'⟩:=ihv _ rs1 T2 ws (hk++T1.objs) ρ1 h3 hb2 H1 k2 (fun r hr=>by
       refine⟨(hm r (mem2 r hr)).1,fun hl=>?_⟩
       rcases l1 r hl with h4|h4
       .exact(hm r (mem2 r hr)).2 h4
       .obtain⟨id,q1,o,e,q2,q3⟩:=hr
        obtain⟨id',q1',o',e',q2',q3'⟩:=h4
        have:=H2.inj _ _ _ _ _ _ _ q2 q2' q3 q3'
        grind) n2 (fun id hid=>hfz id (by simp[hid]))
      rw[List.append_assoc]at H'
      refine⟨ρ',H',r1'.trans r',.cons (v1.mono (GD.refl _) r') v',fun r hl=>?_⟩
      grind
     .cases e
    .cases e
  intro base v r T w hk ρ e hb Hk hv
  have frzc:∀v',(match frz h2 dF v' with|some (v',ids)=>some (v',(⟨[],[],ids⟩:Ta))|none=>none)=some (r,T)->VR Z2 ρ2 v' w->AaR Zc Z2 ρ2 h2 σ ρ hk T (fun ρ'=>VR Zc ρ' r w):=by
   intro v' e hv' _ _ hfz
   split at e
   .rename_i q ids hq
    cases e
    simp only[List.append_nil]at *
    exact⟨ρ,Hk,EQ.refl _,(KI H2 hz _ _ _ _ _ hq hv' hfz).mono (GD.refl _) (EQ.zero _),fun r h=>.inl h⟩
   .cases e
  cases v with
  |sl id ver off n=>
   intro hm hnd hfz
   simp only[Bp]at e
   split at e
   .rename_i o ho
    cases hc:(Nat.beq off 0&&Nat.beq n o.rows.length&&(Nat.blt 0 o.esz||o.nl))with
    |false=>rw[hc]at e;cases e
    |true=>
     rw[hc]at e
     simp only[cond_true]at e
     simp only[and_eq_true]at hc
     obtain⟨⟨c1,c2⟩,c3⟩:=hc
     have c1:=eq_of_beq_eq_true c1
     have c2:=eq_of_beq_eq_true c2
     split at e
     .rename_i rs ids hq
      cases e
      obtain⟨q1,q2⟩:=Ec ho
      subst q2
      rcases Bool.eq_false_or_eq_true o.nl with hn|hn
      .obtain⟨k1,k2⟩:=H2.nils _ _ q1 hn
       have hrs:rs=[]:=by
        have:=(DD hq).1
        grind
       obtain⟨ρ',H',E',r'⟩:=Hk.nilObj' { o with ver:=0,rows:=rs } rfl hn hrs
       have hn0:n=0:=by rw[c2,k2];rfl
       subst hn0
       refine⟨ρ',H',E'.rl,?_,fun r hl=>?_⟩
       .cases hv with
        |sl _ _ hρ=>rw[k1]at hρ;cases hρ
        |sn _ hρ=>rw[hb];exact .sn 0 r'
       .rcases E'.lv r hl with h|h
        .exact .inl h
        .obtain⟨i,o2,e2,g1,g2⟩:=hl
         have:=H'.rdom _ _ _ _ g2
         omega
      .obtain⟨hok,rid,cs,k1,k2,k3,k4⟩:=H2.live _ _ q1 hn
       have hes:0<o.esz:=by
        simp_all
       have hrows:∀row∈o.rows,row.length=o.esz:=by
        rcases hok with ⟨h0,_⟩|⟨_,h1⟩
        .omega
        .exact h1
       obtain⟨g1,g2⟩:=A0M H2 hz hq (ids:=ids) hfz
       have hreal:JT ρ2 h2 [id] rid:=⟨id,by simp,o,o.esz,q1,k1⟩
       obtain⟨m1,m2⟩:=hm rid hreal
       have hrs:∀row∈rs,row.length=o.esz:=by
        intro row hr
        obtain⟨i,hi,ei⟩:=List.mem_iff_getElem.1 hr
        obtain⟨row0,p1,p2,_⟩:=g2 i row (by rw[getElem?_eq_getElem hi,ei])
        grind
       have hlen:({ o with ver:=0,rows:=rs }:VO).len=o.len:=by
        unfold VO.len
        rw[Dm hrs,Dm hrows,g1]
       obtain⟨ρ',H',r1,l1,r2⟩:=Hk.adopt (o:={ o with ver:=0,rows:=rs }) (cs:=cs) (rid:=rid) rfl (.inr ⟨hes,hrs⟩) hn m1 m2 (by rw[hlen];exact k3) (by
        intro r row c v e1 e2
        obtain⟨row0,p1,p2,p3⟩:=g2 r row e1
        obtain⟨v0,q1,q2⟩:=p3 c v e2
        obtain⟨w,hw,hv⟩:=k4 r row0 c v0 p1 q1
        exact⟨w,hw,(q2 w hv).mono (GD.refl _) (EQ.zero _)⟩)
       refine⟨ρ',H',r1,?_,fun r hl=>?_⟩
       .cases hv with
        |sn _ hρ=>rw[k1]at hρ;cases hρ
        |sl _ _ hρ=>
         rw[k1]at hρ
         cases hρ
         subst c1
         have:=VR.sl (Z:=Zc) 0 n r2
         grind
       grind
     .cases e
   .cases e
  |ag cs=>
   simp only[Bp]at e
   split at e
   .rename_i cs' T' h1
    cases e
    cases hv with
    |ag a1 a2=>
     intro hm hnd hfz
     obtain⟨ρ',H',r',v',l'⟩:=ihL cs base cs' T _ hk ρ h1 hb Hk ⟨a1,a2⟩ hm hnd hfz
     exact⟨ρ',H',r',.ag v'.1 v'.2,l'⟩
   .cases e
  |tu cs=>
   simp only[Bp]at e
   split at e
   .rename_i cs' T' h1
    cases e
    cases hv with
    |tu a1 a2=>
     intro hm hnd hfz
     obtain⟨ρ',H',r',v',l'⟩:=ihL cs base cs' T _ hk ρ h1 hb Hk ⟨a1,a2⟩ hm hnd hfz
     exact⟨ρ',H',r',.tu v'.1 v'.2,l'⟩
   .cases e
  |un=>grind[Bp]
  |b x=>grind[Bp]
  |i k n=>grind[Bp]
  |s x=>grind[Bp]
  |nf=>grind[Bp]
  |np=>grind[Bp]
  |nl=>grind[Bp]
  |p a b c d=>grind[Bp]
  |fp a b=>grind[Bp]
  |ls a=>grind[Bp]
  |f a b c=>grind[Bp]
end
def A0g(A:Dz)(n:Nat)(fn:A4)(ws:List AV)(σ:St):Option (AV×St):=
 match B3 A n fn.body (Tm.ofList ws) σ with
 |some (.norm,F',σ')|some (.ret,F',σ')=>(match Ck F' σ' fn.results with|some vs=>some (Zd vs,σ')|none=>none)
 |_=>none
structure Qd(V:Ai)(A:Dz):Prop where
 fn:∀g vf,V.fn g=some vf->A.ext g=none/\A.fn g=some vf.af
 fnH:∀g vf,V.fnH g=some vf->A.ext g=none/\A.fn g=some vf.af
 ext:∀g x,V.ext g=some x->∃y,A.ext g=some y/\∀(Z:BQ) pa ws (σ:St) v,Cw Z ρ0 pa ws->x pa=some v->scal v=true->∃w,y ws σ=some (w,σ)/\VR Z ρ0 v w
def ZX(A:Dz)(run:Pl):Prop:=
 ∀(vf:Gd) (args:List VV) (h:VH) (v:VV) (h':VH),run vf args h=some (v,h')->∀(Z:BQ) (ρ:B6) (σ:St) (ws:List AV),HR Z ρ h σ->Cw Z ρ args ws ->
  ∃N w σ' Z' ρ',A0g A N vf.af ws σ=some (w,σ')/\HR Z' ρ' h' σ'/\VR Z' ρ' v w/\Ev Z ρ h σ Z' ρ' h' σ'
theorem EC{A:Dz}{g:Nat}{fn:A4}(h1:A.ext g=none)(h2:A.fn g=some fn)(N:Nat)(ws:List AV)(σ:St):call A N g ws σ=A0g A N fn ws σ:=by
 unfold call C9 A0g
 grind
section
variable {A:Dz}{V:Ai}{run:Pl}(fit:Qd V A)(ok:ZX A run){Z:BQ}{ρ:B6}{h:VH}{σ:St}
include fit ok
def A2c(A:Dz)(Z:BQ)(ρ:B6)(h:VH)(σ:St)(g:Nat)(ws:List AV)(v:VV)(h':VH)(quiet:Bool):Prop:=
 ∃N w σ' Z' ρ',call A N g ws σ=some (w,σ')/\HR Z' ρ' h' σ'/\VR Z' ρ' v w/\Ev Z ρ h σ Z' ρ' h' σ'/\(quiet=true->∀id ob,σ.get id=some ob->σ'.get id=some ob)
omit ok in
theorem Abx{g:Nat}{args:List VV}{ws:List AV}{v:VV}{h':VH}{x:List VV->Option VV}(H:HR Z ρ h σ)(hv:Cw Z ρ args ws)(e:(match Gt h args with
        |some (pa,_)=>(match x pa with
          |some v=>bif scal v then some (v,h)else none
          |none=>none)
        |none=>none)=some (v,h')) (hx:V.ext g=some x):A2c A Z ρ h σ g ws v h' (Nat.ble 0 1):=by
  obtain⟨y,h1,h2⟩:=fit.ext g x hx
  split at e
  · rename_i pa ids hp
    split at e
    · rename_i r hr
      cases hs:scal r with
      |false=>rw[hs]at e;cases e
      |true=>
        rw[hs]at e
        cases e
        obtain⟨Z1,H1,z1,f1,d1,l1⟩:=H.killAll ids
        have hp':=K3 H z1 hp hv f1
        obtain⟨w,k1,k2⟩:=h2 Z1 pa ws σ v hp' hr hs
        refine⟨0,w,σ,Z,ρ,?_,H,k2.scal hs,Ev.refl,fun _ _ _ e=>e⟩
        simp_all[call,C9]
    · cases e
  · cases e
theorem Aaa{g:Nat}{args pa:List VV}{ids ids2:List Nat}{ws:List AV}{v2 r:VV}{h2:VH}{vf:Gd}(H:HR Z ρ h σ)(hv:Cw Z ρ args ws)(hp:Gt h args=some (pa,ids))(a1:A.ext g=none)(a2:A.fn g=some vf.af)(hrun:run vf pa []=some (v2,h2))(hq:frz h2 dF v2=some (r,ids2)):A2c A Z ρ h σ g ws r (bif scal r then h else Bw ids h) (Nat.ble 0 1):=by
 obtain⟨Z1,H1,z1,f1,d1,l1⟩:=H.killAll ids
 have hp':=K3 H z1 hp hv f1
 obtain⟨N,w,σ2,Z2,ρ2,k1,H2,v2',E2⟩:=ok vf pa [] v2 h2 hrun Z1 ρ0 σ ws (HR.empty H.nd H1.zs) hp'
 have keep:∀id ob,σ.get id=some ob->σ2.get id=some ob:=fun id ob e=>E2.keep id ob e Lv.empty
 obtain⟨Z3,H3,z3,f3,d3,l3⟩:=H2.killAll ids2
 have hr:=KI H2 z3 _ _ _ _ _ hq v2' f3
 have hd3:∀r ob,Z3 r=some ob->Z1 r=some ob\/σ.next<=r:=by
  intro r ob e
  rcases d3 r ob e with h4|h4
  .rcases E2.zd r ob h4 with h5|h5|h5
   .exact .inl h5
   .exact absurd h5 Lv.empty
   .exact .inr h5
  .rcases E2.lv r h4 with h5|h5
   .exact absurd h5 Lv.empty
   .exact .inr h5
 refine⟨N,w,σ2,?_⟩
 cases hs:scal r with
 |true=>
  refine⟨Z,ρ,(EC a1 a2 N ws σ).trans k1,?_,hr.scal hs,⟨GD.refl _,EQ.refl _,E2.nx,fun id ob e _=>keep id ob e,fun _ h=>.inl h,fun _ _ h=>.inl h⟩,fun _=>keep⟩
  exact H.after (GD.refl _) keep H2.nd E2.nx (fun id ob e=>keep id ob (H.zs id ob e)) fun r ob e=>.inl e
 |false=>
  refine⟨Z3,ρ,(EC a1 a2 N ws σ).trans k1,?_,hr.mono (GD.refl _) (EQ.zero _),?_,fun _=>keep⟩
  .exact H1.after (E2.zl.trans z3) keep H2.nd E2.nx H3.zs hd3
  .refine⟨z1.trans (E2.zl.trans z3),EQ.refl _,E2.nx,fun id ob e _=>keep id ob e,fun r hl=>.inl (l1 r hl),fun r ob e=>?_⟩
   grind
theorem A23{m g:Nat}{args:List VV}{ws:List AV}{v:VV}{h':VH}(H:HR Z ρ h σ)(hv:Cw Z ρ args ws)(e:J4 V run m g args h=some (v,h')):A2c A Z ρ h σ g ws v h' (Nat.ble m 1):=by
 unfold J4 at e
 split at e
 .split at e
  .grind[Abx]
  .split at e
   .rename_i vf hf
    obtain⟨a1,a2⟩:=fit.fn g vf hf
    grind[Aaa]
   .cases e
 ·-- pure,what it lays is handed on
  split at e
  .rename_i vf hf
   obtain⟨a1,a2⟩:=fit.fn g vf hf
   split at e
   .rename_i pa ids hp
    split at e
    .rename_i v2 h2 hrun
     split at e
     .rename_i r T hq
      split at e
      .rename_i hnd
       cases e
       obtain⟨Z1,H1,z1,f1,d1,l1⟩:=H.killAll ids
       have hp':=K3 H z1 hp hv f1
       obtain⟨N,w,σ2,Z2,ρ2,k1,H2,v2',E2⟩:=ok vf pa [] v2 h2 hrun Z1 ρ0 σ ws (HR.empty H.nd H1.zs) hp'
       have keep:∀id ob,σ.get id=some ob->σ2.get id=some ob:=fun id ob e=>E2.keep id ob e Lv.empty
       obtain⟨Z3,H3,z3,f3,d3,l3⟩:=H2.killAll T.frozen
       have hd3:∀r ob,Z3 r=some ob->Z1 r=some ob\/σ.next<=r:=by
        intro r ob e
        rcases d3 r ob e with h4|h4
        .rcases E2.zd r ob h4 with h5|h5|h5
         .exact .inl h5
         .exact absurd h5 Lv.empty
         .exact .inr h5
        .rcases E2.lv r h4 with h5|h5
         .exact absurd h5 Lv.empty
         .exact .inr h5
       have Hk:HR Z3 ρ (Bw ids h) σ2:=H1.after (E2.zl.trans z3) keep H2.nd E2.nx H3.zs hd3
       have hnew:∀r,JT ρ2 h2 T.moved r->σ.next<=r:=by
        rintro r ⟨id,_,o,e,q1,q2⟩
        rcases E2.lv r ⟨id,o,e,q1,q2⟩with h5|h5
        .exact absurd h5 Lv.empty
        .exact h5
       have tk:=Aap H2 z3 dF h.length v2 v T w (Bw ids h) ρ hq (by rw[AcG]) Hk v2'
       obtain⟨ρ',H',r',v',l'⟩:=tk (fun r hr=>by
        refine⟨?_,?_⟩
        .cases e:Z3 r with
         |none=>rfl
         |some ob=>
          obtain⟨id,hid,o,e',q1,q2⟩:=hr
          have hne:=hnd.2 id hid
          have q1':(Bw T.frozen h2)[id]? = some (some o):=by
           have kk:∀(l:List Nat) (hh:VH),id∉l->hh[id]? = some (some o)->(Bw l hh)[id]? = some (some o):=by
            intro l
            induction l with
            |nil=>intro hh _ e;exact e
            |cons a l ih=>
             intro hh hn e
             simp only[mem_cons,not_or]at hn
             simp only[Bw]
             grind
           exact kk _ _ hne q1
          have:=(H3.zl_lv q1' q2).2.2
          grind
        .rintro⟨i,o,e',q1,q2⟩
         have h6:=H.rdom _ _ _ _ q2
         grind) hnd.1 f3
       refine⟨N,w,σ2,Z3,ρ',(EC a1 a2 N ws σ).trans k1,H',v',?_,fun _=>keep⟩
       refine⟨z1.trans (E2.zl.trans z3),r',E2.nx,fun id ob e _=>keep id ob e,fun r hl=>?_,fun r ob e=>?_⟩
       .grind
       grind
      .cases e
     .cases e
    .cases e
   .cases e
  .cases e
 ·-- on the same heap
  split at e
  .rename_i vf hf
   obtain⟨a1,a2⟩:=fit.fnH g vf hf
   obtain⟨N,w,σ2,Z2,ρ2,k1,H2,v2',E2⟩:=ok vf args h v h' e Z ρ σ ws H hv
   exact⟨N,w,σ2,Z2,ρ2,(EC a1 a2 N ws σ).trans k1,H2,v2',E2,fun hq=>by simp at hq⟩
  .cases e
 ·-- on the same heap;what it laid is dropped
  rename_i hm0 hm1 hm2
  split at e
  .rename_i vf hf
   obtain⟨a1,a2⟩:=fit.fnH g vf hf
   split at e
   .rename_i v2 h2 hrun
    split at e
    .rename_i r ids hq
     split at e
     .rename_i hk
      cases e
      obtain⟨N,w,σ2,Z2,ρ2,k1,H2,v2',E2⟩:=ok vf args h v2 h2 hrun Z ρ σ ws H hv
      obtain⟨Z3,H3,z3,f3,d3,l3⟩:=H2.killAll ids
      have hr:=KI H2 z3 _ _ _ _ _ hq v2' f3
      obtain⟨H4,r4,l4,_⟩:=H.cut H3 E2.rl hk
      refine⟨N,w,σ2,Z3,La ρ2 h.length,(EC a1 a2 N ws σ).trans k1,H4,hr.mono (GD.refl _) (EQ.zero _),?_,fun hq=>?_⟩
      .refine⟨E2.zl.trans z3,r4,E2.nx,E2.keep,fun r hl=>E2.lv r (l3 r (l4 r hl)),fun r ob e=>?_⟩
       rcases d3 r ob e with h5|h5
       .exact E2.zd r ob h5
       .rcases E2.lv r h5 with h6|h6
        .exact .inr (.inl h6)
        .exact .inr (.inr h6)
      grind[ble_eq]
     .cases e
    .cases e
   .cases e
  .cases e
end
mutual
theorem U1:∀v:AV,AV.eqb v v=true
 |.b x=>by simp[AV.eqb]
 |.i k n=>by simp[AV.eqb]
 |.s x=>by simp[AV.eqb]
 |.p o=>by simp[AV.eqb]
 |.sl o n=>by simp[AV.eqb]
 |.f g a c=>by simp[AV.eqb,H9 a,H9 c]
 |.nf=>rfl
 |.ag cs=>by simp[AV.eqb,H9 cs]
 |.tu cs=>by simp[AV.eqb,H9 cs]
theorem H9:∀l:List AV,AV.eqbL l l=true
 | []=>rfl
 |x::xs=>by simp[AV.eqbL,U1 x,H9 xs]
end
section
variable {A:Dz}{V:Ai}{run:Pl}
theorem EO{Z:BQ}{ρ:B6}{F:A3}{G:Fr}(hF:DZ Z ρ F G){g:Option (Nat×Bool)}{b:Bool}(e:Cv F g=some b):wanted G g=b:=by
 cases g with
 |none=>simp only[Cv,Option.some.injEq]at e;subst e;rfl
 |some x=>
  obtain⟨t,w⟩:=x
  have ht:=hF t
  simp only[Cv]at e
  split at e
  .rename_i x hx
   cases e
   rw[hx]at ht
   simp only[wanted]
   generalize Fr.tmp G t=u at ht
   cases ht
   rfl
  .rename_i hx
   cases e
   rw[hx]at ht
   simp only[wanted]
   generalize Fr.tmp G t=u at ht
   cases ht
   rfl
  .cases e
theorem AcF{o:VO}:∀{ids:List Nat} {h:VH} {i:Nat},(Bw ids h)[i]? = some (some o)->h[i]? = some (some o)/\i∉ids:=by
 intro ids
 induction ids with
 |nil=>intro h i e;exact⟨e,by simp⟩
 |cons a ids ih=>
  intro h i e
  simp only[Bw]at e
  grind
def AaP(A:Dz)(Z:BQ)(ρ:B6)(h:VH)(σ:St)(m:Nat)(op:Bl)(F:A3)(G:Fr)(v:VV)(h':VH):Prop:=
 ∃N w σ' Z' ρ',AX (call A N) op G σ=some (w,σ')/\HR Z' ρ' h' σ'/\VR Z' ρ' v w/\Ev Z ρ h σ Z' ρ' h' σ'/\(NG m op=true->∀id ob,σ.get id=some ob->σ'.get id=some ob) /\
  ∀i o rid e,h[i]? = some (some o)->ρ i o.ver=some (some (rid,e))->M2 m op F i=false->σ'.get rid=σ.get rid
theorem Pi(fit:Qd V A)(ok:ZX A run){Z:BQ}{ρ:B6}{h:VH}{σ:St}(H:HR Z ρ h σ){F:A3}{G:Fr}(hF:DZ Z ρ F G){m:Nat}{op:Bl}{v:VV}{h':VH}(e:JJ V run m op F h=some (v,h')):AaP A Z ρ h σ m op F G v h':=by
 have plain:(∀f args,op≠.call f args)->Df m op F h=some (v,h')->AaP A Z ρ h σ m op F G v h':=by
  intro hne e
  obtain⟨w,σ',Z',ρ',h1,h2,h3,h4,h5⟩:=Aau H hF e
  refine⟨0,w,σ',Z',ρ',?_,h2,h3,h4,?_,h5⟩
  .cases op<;>first|exact h1|exact absurd rfl (hne _ _)
  .intro hq id ob eg
   by_cases hl:Lv ρ h id
   .obtain⟨i,o,e2,q1,q2⟩:=hl
    rw[h5 i o id e2 q1 q2 ?_]
    .exact eg
    .cases op<;>first|exact absurd rfl (hne _ _)|rfl|simp[NG]at hq
   .exact h4.keep id ob eg hl
 cases op with
 |call f args=>
  have hf:=hF.ev f
  simp only[JJ]at e
  split at e
  .rename_i g a c hv
   rw[hv]at hf
   generalize hw:Fr.ev G f=wf at hf
   cases hf with
   |f g a1 a2 a3 a4=>
    rename_i a' c'
    have hargs:Cw Z ρ (a++args.map (A3.ev F)++c) (a'++args.map (Fr.ev G)++c'):=(Cw.append (Cw.append ⟨a1,a2⟩ (Cw.map_ev hF args)) ⟨a3,a4⟩)
    cases h4:GM V run m g (a++args.map (A3.ev F)++c) h with
    |false=>rw[h4]at e;cases e
    |true=>
    rw[h4]at e
    obtain⟨N,w,σ',Z',ρ',k1,k2,k3,k4,k5⟩:=A23 fit ok H hargs e
    refine⟨N,w,σ',Z',ρ',by simp only[AX,hw];exact k1,k2,k3,k4,fun hq=>k5 hq,?_⟩
    intro i o rid e2 q1 q2 q3
    simp only[M2,hv]at q3
    obtain⟨hn,_⟩:=H.zl_lv q1 q2
    obtain⟨_,rid',cs,p1,_,p3,_⟩:=H.live _ _ q1 hn
    rw[q2]at p1
    cases p1
    cases hm:Nat.beq m 4 with
    |false=>
     grind
    |true=>
     rw[hm]at q3
     simp only[cond_true]at q3
     unfold GM at h4
     rw[hm,cond_true]at h4
     split at h4
     .rename_i vf hvf
      obtain⟨b1,b2⟩:=fit.fnH g vf hvf
      obtain⟨⟨v2,h2⟩,hrun⟩:=Option.isSome_iff_exists.1 h4
      obtain⟨Z1,H1,z1,f1,d1,l1⟩:=H.killAll (Kd (a++args.map (A3.ev F)++c) h)
      obtain⟨N2,w2,σ2,Z2,ρ2,r1,H2,v2',E2⟩:=ok vf _ _ v2 h2 hrun Z1 ρ σ _ H1 (hargs.mono z1 (EQ.refl _))
      have c2:=(EC b1 b2 N2 (a'++args.map (Fr.ev G)++c') σ).trans r1
      have s1:=D5 (le_max_left N N2) _ _ _ _ k1
      have s2:=D5 (le_max_right N N2) _ _ _ _ c2
      rw[s1]at s2
      cases s2
      rw[p3]
      refine E2.keep _ _ p3 ?_
      rintro⟨j,o',e',w1,w2⟩
      obtain⟨w3,w4⟩:=AcF w1
      have hij:=H.inj _ _ _ _ _ _ _ q1 w3 q2 w2
      grind[Kd]
     .cases h4
  .cases e
 |_=>exact plain (by intros;simp) e
theorem A5J(fit:Qd V A)(ok:ZX A run){m:Nat->Nat}:∀(ops:List Ay) (F:A3) (h:VH) (F':A3) (h':VH),Pw V m run ops F h=some (F',h')->∀{Z:BQ} {ρ:B6} {σ:St} {G:Fr},HR Z ρ h σ->DZ Z ρ F G ->
  ∃N G' σ' Z' ρ',Dt (call A N) ops G σ=some (G',σ')/\HR Z' ρ' h' σ'/\DZ Z' ρ' F' G'/\Ev Z ρ h σ Z' ρ' h' σ':=by
 intro ops
 induction ops with
 |nil=>
  intro F h F' h' e Z ρ σ G H hF
  simp only[Pw,Option.some.injEq,Prod.mk.injEq]at e
  obtain⟨rfl,rfl⟩:=e
  exact⟨0,G,σ,Z,ρ,rfl,H,hF,Ev.refl⟩
 |cons o r ih=>
  intro F h F' h' e Z ρ σ G H hF
  simp only[Pw]at e
  split at e
  .rename_i hw
   split at e
   .rename_i v h1 hv
    obtain⟨N,w,σ1,Z1,ρ1,k1,k2,k3,k4,_⟩:=Pi fit ok H hF hv
    obtain⟨N2,G',σ',Z',ρ',p1,p2,p3,p4⟩:=ih _ _ _ _ e k2 ((hF.mono k4.zl k4.rl).put k3 o.dst)
    refine⟨max N N2,G',σ',Z',ρ',?_,p2,p3,k4.trans p4 H.nd⟩
    simp only[Dt,EO hF hw,cond_true,DU (D5 (le_max_left N N2)) k1]
    exact Kw (D5 (le_max_right N N2)) _ _ _ _ p1
   .cases e
  .rename_i hw
   obtain⟨N2,G',σ',Z',ρ',p1,p2,p3,p4⟩:=ih _ _ _ _ e H (hF.put VR.nul o.dst)
   refine⟨N2,G',σ',Z',ρ',?_,p2,p3,p4⟩
   simp only[Dt,EO hF hw,cond_false]
   exact p1
  .cases e
def AaN(L:JP)(G:Fr)(σ:St):Prop:=∀x∈L,∃id off,Fr.tmp G x.2.2=.p (some (id,off))/\σ.loadV x.2.1 id off=some (Fr.tmp G x.1)
theorem A4w{σ σ':St}{id:Nat}(hk:σ'.get id=σ.get id){n:Option Nat}{off:Nat}:σ'.loadV n id off=σ.loadV n id off:=by
 have h1:∀off,σ'.load1 id off=σ.load1 id off:=fun off=>by unfold St.load1;rw[hk]
 have hN:∀n off,σ'.loadN id off n=σ.loadN id off n:=by
  intro n
  induction n with
  |zero=>intro off;rfl
  |succ n ih=>intro off;unfold St.loadN;rw[h1,ih]
 simp_all[St.loadV]
theorem A9Z{σ:St}{n:Option Nat}{id off:Nat}{v:AV}(h:σ.loadV n id off=some v):(∃ob,σ.get id=some ob)\/n=some 0:=by
 have h1:∀off v,σ.load1 id off=some v->∃ob,σ.get id=some ob:=by
  intro off v h
  unfold St.load1 at h
  grind
 cases n with
 |none=>exact .inl (h1 off v h)
 |some n=>
  cases n with
  |zero=>exact .inr rfl
  |succ n=>
   grind[St.loadV,St.loadN]
theorem QK{σ σ':St}{n:Option Nat}{id off:Nat}{v:AV}(h:σ.loadV n id off=some v)(hk:∀ob,σ.get id=some ob->σ'.get id=some ob):σ'.loadV n id off=some v:=by
 rcases A9Z h with ⟨ob,ho⟩|h0
 .grind[A4w]
 .subst h0;exact h
theorem MN{G:Fr}{d:Option Nat}{w:AV}{t:Nat}(h:d≠some t):Fr.tmp (BD G d w) t=Fr.tmp G t:=by
 cases d with
 |none=>rfl
 |some d=>
  have:t≠d:=by rintro rfl;exact h rfl
  unfold Fr.tmp BD
  rw[Tm.get_set,if_neg this]
theorem Tj{d:Option Nat}{L:JP}{x:Nat×Option Nat×Nat}(h:x∈Hj d L):x∈L/\d≠some x.1/\d≠some x.2.2:=by
 cases d with
 |none=>exact⟨h,by simp,by simp⟩
 |some d=>
  simp only[Hj,List.mem_filter,and_eq_true,not_eq_true']at h
  grind[beq_refl]
theorem Aes{Z:BQ}{ρ:B6}{h:VH}{σ σ':St}{F:A3}{G:Fr}{m:Nat}{op:Bl}{d:Option Nat}{L:JP}{w:AV}{N:Nat}(H:HR Z ρ h σ)(hF:DZ Z ρ F G)(hL:AaN L G σ)(ev:AX (call A N) op G σ=some (w,σ'))
  (hq:NG m op=true->∀id ob,σ.get id=some ob->σ'.get id=some ob) (ht:∀i o rid e,h[i]? = some (some o)->ρ i o.ver=some (some (rid,e))->M2 m op F i=false->σ'.get rid=σ.get rid)
  (hkeep:∀id ob,σ.get id=some ob->¬Lv ρ h id->σ'.get id=some ob):AaN (Dd m d op F h L) (BD G d w) σ':=by
 have hkL:∀x∈A0V m op F h L,∃id off,Fr.tmp G x.2.2=.p (some (id,off))/\σ'.loadV x.2.1 id off=some (Fr.tmp G x.1):=by
  intro x hx
  unfold A0V at hx
  cases hc:NG m op with
  |true=>
   rw[hc]at hx
   obtain⟨id,off,h1,h2⟩:=hL x hx
   grind[QK]
  |false=>
   rw[hc]at hx
   simp only[cond_false,List.mem_filter]at hx
   obtain⟨hx1,hx2⟩:=hx
   obtain⟨id,off,h1,h2⟩:=hL x hx1
   refine⟨id,off,h1,QK h2 fun ob hob=>?_⟩
   have ha:=hF x.2.2
   rw[h1]at ha
   split at hx2
   .rename_i vid ver r c hv
    rw[hv]at ha
    simp only[and_eq_true,not_eq_true',Option.isSome_iff_exists]at hx2
    obtain⟨⟨o,ho⟩,hx3⟩:=hx2
    obtain⟨q1,q2⟩:=Ec ho
    subst q2
    obtain⟨rid,esz,k1,k2⟩:=ha.ptr_p
    grind
   .rename_i cells c hv
    rw[hv]at ha
    have hz:∃ob',Z id=some ob':=by
     cases ha with
     |fp _ _ cl hZ _ _=>exact⟨_,hZ⟩
    obtain⟨ob',hz⟩:=hz
    refine hkeep id ob hob ?_
    rintro⟨i,o,e,q1,q2⟩
    have:=(H.zl_lv q1 q2).2.2
    rw[hz]at this
    cases this
   .cases hx2
 have hd:∀x∈Hj d (A0V m op F h L),∃id off,Fr.tmp (BD G d w) x.2.2=.p (some (id,off))/\σ'.loadV x.2.1 id off=some (Fr.tmp (BD G d w) x.1):=by
  intro x hx
  obtain⟨h1,h2,h3⟩:=Tj hx
  grind[MN]
 intro x hx
 unfold Dd Ajw at hx
 split at hx
 .rename_i dd n a
  cases hb:Nat.beq a dd with
  |true=>rw[hb]at hx;exact hd x hx
  |false=>
   rw[hb]at hx
   simp only[cond_false,mem_cons]at hx
   rcases hx with rfl|hx
   .have hne:a≠dd:=by rintro rfl;rw[beq_refl]at hb;cases hb
    simp only
    rw[MN (t:=a) (fun h=>hne (Option.some.inj h).symm)]
    have e1:Ap (.ld n (.t a)) G σ=some (w,σ'):=ev
    simp only[Ap]at e1
    split at e1
    .rename_i id off hid
     split at e1
     .rename_i v hv
      cases e1
      refine⟨id,off,hid,?_⟩
      unfold BD Fr.tmp
      rw[Tm.get_set,if_pos rfl]
      exact hv
     .cases e1
    .cases e1
   .exact hd x hx
 .exact hd x hx
theorem Ael{Z:BQ}{ρ:B6}{v:VV}{w:AV}(h:VR Z ρ v w):∀{w':AV},VR Z ρ v w'->CJ v=true->w=w':=by
 have key:∀{ρ:B6} {v:VV} {w:AV},VR Z ρ v w->∀{w':AV},VR Z ρ v w'->scal v=true->w=w':=by
  intro ρ v w h
  induction h with
  |tu h1 h2 ih=>
   intro w' h' hs
   cases h' with
   |tu k1 k2=>
    rename_i a' b'
    simp only[scal,TO]at hs
    congr 1
    apply List.ext_getElem (by omega)
    intro j j1 j2
    refine ih j _ _ (getElem?_eq_getElem (by omega)) (getElem?_eq_getElem j1) (k2 j _ _ (getElem?_eq_getElem (by omega)) (getElem?_eq_getElem j2)) (hs _ (List.getElem_mem _))
  |b=>intro w' h' _;cases h';rfl
  |i=>intro w' h' _;cases h';rfl
  |s=>intro w' h' _;cases h';rfl
  |nf=>intro w' h' _;cases h';rfl
  |np=>intro w' h' _;cases h';rfl
  |_=>intro w' h' hs;simp[scal]at hs
 intro w' h' hr
 cases h with
 |p r c hρ=>
  obtain⟨rid,esz,k1,k2⟩:=h'.ptr_p
  grind
 |sl off n hρ=>
  cases h' with
  |sl _ _ k1=>rw[hρ]at k1;cases k1;rfl
  |sn _ k1=>rw[hρ]at k1;cases k1
 |sn off hρ=>
  cases h' with
  |sl _ _ k1=>rw[hρ]at k1;cases k1
  |sn _ k1=>rfl
 |b=>cases h';rfl
 |i=>cases h';rfl
 |s=>cases h';rfl
 |nf=>cases h';rfl
 |np=>cases h';rfl
 |tu h1 h2=>exact key (.tu h1 h2) h' hr
 |_=>simp[CJ,scal]at hr
theorem A1y{Z:BQ}{ρ:B6}{h:VH}{σ:St}{F:A3}{G:Fr}(H:HR Z ρ h σ)(hF:DZ Z ρ F G){L:JP}(hL:AaN L G σ):∀(chk:List Ay),C3 F h L chk->Cu G σ chk=true:=by
 intro chk
 induction chk with
 |nil=>intro _;rfl
 |cons o r ih=>
  rintro⟨h1,h2⟩
  simp only[Cu,and_eq_true]
  refine⟨?_,ih h2⟩
  split at h1
  .grind[EO]
  .rename_i hw
   rw[EO hF hw]
   simp only[cond_true]
   split at h1
   .rename_i d n a hd hop
    rw[hd,hop]
    have:∃id off,Fr.tmp G a=.p (some (id,off))/\σ.loadV n id off=some (Fr.tmp G d):=by
     rcases h1 with h1|⟨h1,h3⟩
     .exact hL _ h1
     .obtain⟨id,off,p1,w',p2,p3⟩:=ZG H (hF a) h3
      refine⟨id,off,p1,?_⟩
      rw[Ael (hF d) p3 h1]
      exact p2
    obtain⟨id,off,p1,p2⟩:=this
    simp_all[Ap,Fr.ev,U1]
   .exact h1.elim
  .exact h1.elim
end
end Go.AM
namespace Go.AM
open Go
section
variable {A:Dz}{V:Ai}{run:Pl}
theorem ZI(fit:Qd V A)(ok:ZX A run){m:Nat->Nat}:∀(ops:List AE) (L:JP) (F:A3) (h:VH) (F':A3) (h':VH),Gc V m run ops L F h=some (F',h')->∀{Z:BQ} {ρ:B6} {σ:St} {G:Fr},HR Z ρ h σ->DZ Z ρ F G->AaN L G σ ->
  ∃N G' σ' Z' ρ',BX (call A N) ops G σ=some (G',σ')/\HR Z' ρ' h' σ'/\DZ Z' ρ' F' G'/\Ev Z ρ h σ Z' ρ' h' σ':=by
 intro ops
 induction ops with
 |nil=>
  intro L F h F' h' e Z ρ σ G H hF _
  simp only[Gc,Option.some.injEq,Prod.mk.injEq]at e
  obtain⟨rfl,rfl⟩:=e
  exact⟨0,G,σ,Z,ρ,rfl,H,hF,Ev.refl⟩
 |cons s r ih=>
  intro L F h F' h' e Z ρ σ G H hF hL
  simp only[Gc]at e
  split at e
  .rename_i hw
   split at e
   .rename_i v h1 hv
    split at e
    .rename_i hchk
     obtain⟨N,w,σ1,Z1,ρ1,k1,k2,k3,k4,k5,k6⟩:=Pi fit ok H hF hv
     have hF1:=(hF.mono k4.zl k4.rl).put k3 s.o.dst
     have hL1:=Aes (d:=s.o.dst) H hF hL k1 k5 k6 k4.keep
     obtain⟨N2,G',σ',Z',ρ',p1,p2,p3,p4⟩:=ih _ _ _ _ _ e k2 hF1 hL1
     refine⟨max N N2,G',σ',Z',ρ',?_,p2,p3,k4.trans p4 H.nd⟩
     simp only[BX,EO hF hw,cond_true,DU (D5 (le_max_left N N2)) k1,A1y k2 hF1 hL1 _ hchk]
     exact HF (D5 (le_max_right N N2)) _ _ _ _ p1
    .cases e
   .cases e
  .rename_i hw
   have hL1:AaN (Hj s.o.dst L) (BD G s.o.dst AV.un) σ:=by
    intro x hx
    obtain⟨h1,h2,h3⟩:=Tj hx
    rw[MN h2,MN h3]
    exact hL x h1
   obtain⟨N2,G',σ',Z',ρ',p1,p2,p3,p4⟩:=ih _ _ _ _ _ e H (hF.put VR.nul s.o.dst) hL1
   refine⟨N2,G',σ',Z',ρ',?_,p2,p3,p4⟩
   simp only[BX,EO hF hw,cond_false]
   exact p1
  .cases e
theorem A1N{Z:BQ}{ρ:B6}{h:VH}{σ:St}{F:A3}{G:Fr}(H:HR Z ρ h σ)(hF:DZ Z ρ F G):∀(rs:List A91) (vs:List VV),Cs F h rs=some vs->∃ws,Ck G σ rs=some ws/\Cw Z ρ vs ws:=by
 intro rs
 induction rs with
 |nil=>intro vs e;simp only[Cs,Option.some.injEq]at e;subst e;exact⟨[],rfl,.nil⟩
 |cons r rs ih=>
  intro vs e
  cases r with
  |t n=>
   simp only[Cs]at e
   split at e
   .rename_i us hus
    cases e
    obtain⟨ws,h1,h2⟩:=ih us hus
    exact⟨_,by simp only[Ck,h1],.cons (hF n) h2⟩
   .cases e
  |cell a n=>
   simp only[Cs]at e
   split at e
   .rename_i v hv
    split at e
    .rename_i us hus
     cases e
     obtain⟨ws,h1,h2⟩:=ih us hus
     obtain⟨id,off,p1,w,p2,p3⟩:=ZG H (hF a) hv
     exact⟨_,by simp only[Ck,p1,p2,h1],.cons p3 h2⟩
    .cases e
   .cases e
theorem Ae7{Z:BQ}{ρ:B6}{vs:List VV}{ws:List AV}(h:Cw Z ρ vs ws):VR Z ρ (Lt vs) (Zd ws):=by
 match vs,ws,h with
 | [],[],h=>exact .tu rfl h.2
 | [v],[w],h=>obtain⟨_,_,e,h1,_⟩:=h.uncons;cases e;exact h1
 |v1::v2::vs,w1::w2::ws,h=>exact .tu h.1 h.2
 | [],_::_,h=>have:=h.1;simp at this
 |_::_,[],h=>have:=h.1;simp at this
 | [_],_::_::_,h=>have:=h.1;simp at this
 |_::_::_,[_],h=>have:=h.1;simp at this
theorem AaW{Z:BQ}{ρ:B6}{vs:List VV}{ws:List AV}(h:Cw Z ρ vs ws):DZ Z ρ (Tm.ofList vs) (Tm.ofList ws):=by
 intro t
 unfold A3.tmp Fr.tmp
 rw[Tm.get_ofList,Tm.get_ofList]
 cases e:vs[t]? with
 |none=>
  have:ws[t]? = none:=by
   rw[List.getElem?_eq_none_iff]at e ⊢
   rw[<- h.1];exact e
  rw[this]
  exact VR.nul
 |some v=>
  obtain⟨w,h1,h2⟩:=h.get e
  rw[h1]
  exact h2
def AnA(V:Ai)(A:Dz)(n:Nat):Prop:=∀(m:Nat->Nat) (c:A1) (F:A3) (h:VH) (ex:Ex) (F':A3) (h':VH),Aw V n m c F h=some (ex,F',h')->∀(Z:BQ) (ρ:B6) (σ:St) (G:Fr),HR Z ρ h σ->DZ Z ρ F G ->
  ∃N G' σ' Z' ρ',B3 A N c G σ=some (ex,G',σ')/\HR Z' ρ' h' σ'/\DZ Z' ρ' F' G'/\Ev Z ρ h σ Z' ρ' h' σ'
theorem Aem{n:Nat}(h:AnA V A n):ZX A (Ha (Aw V n)):=by
 intro vf args hh v h' e Z ρ σ ws H hv
 unfold Ha at e
 have fin:∀ex F1 h1,(ex=.norm\/ex=.ret)->Aw V n vf.m vf.af.body (Tm.ofList args) hh=some (ex,F1,h1)->(match Cs F1 h1 vf.af.results with|some vs=>some (Lt vs,h1)|none=>none)=some (v,h') ->
   ∃N w σ' Z' ρ',A0g A N vf.af ws σ=some (w,σ')/\HR Z' ρ' h' σ'/\VR Z' ρ' v w/\Ev Z ρ hh σ Z' ρ' h' σ':=by
  intro ex F1 h1 hex he e
  obtain⟨N,G',σ',Z',ρ',k1,k2,k3,k4⟩:=h _ _ _ _ _ _ _ he Z ρ σ (Tm.ofList ws) H (AaW hv)
  split at e
  .rename_i vs hvs
   cases e
   obtain⟨us,p1,p2⟩:=A1N k2 k3 _ _ hvs
   refine⟨N,Zd us,σ',Z',ρ',?_,k2,Ae7 p2,k4⟩
   unfold A0g
   grind
  .cases e
 grind
theorem AfT(fit:Qd V A):∀n,AnA V A n:=by
 intro n
 induction n with
 |zero=>intro m c F h ex F' h' e;simp[Aw]at e
 |succ n ih=>
  have hrun:=Aem ih
  intro m c F h ex F' h' e Z ρ σ G H hF
  cases c with
  |skip=>
   simp only[Aw,Option.some.injEq,Prod.mk.injEq]at e
   obtain⟨rfl,rfl,rfl⟩:=e
   exact⟨1,G,σ,Z,ρ,rfl,H,hF,Ev.refl⟩
  |reg ops=>
   simp only[Aw]at e
   split at e
   .rename_i F1 h1 h2
    cases e
    obtain⟨N,G',σ',Z',ρ',k1,k2,k3,k4⟩:=A5J fit hrun _ _ _ _ _ h2 H hF
    refine⟨N+1,G',σ',Z',ρ',?_,k2,k3,k4⟩
    have k1':Dt (C9 A (B3 A N)) ops G σ=some (G',σ'):=k1
    simp only[B3,k1']
   .cases e
  |dreg ops=>
   simp only[Aw]at e
   split at e
   .rename_i F1 h1 h2
    cases e
    obtain⟨N,G',σ',Z',ρ',k1,k2,k3,k4⟩:=ZI fit hrun _ _ _ _ _ _ h2 H hF (fun x hx=>by simp at hx)
    refine⟨N+1,G',σ',Z',ρ',?_,k2,k3,k4⟩
    have k1':BX (C9 A (B3 A N)) ops G σ=some (G',σ'):=k1
    simp only[B3,k1']
   .cases e
  |seq a b=>
   simp only[Aw]at e
   cases ha:Aw V n m a F h with
   |none=>rw[ha]at e;cases e
   |some x=>
    obtain⟨e1,F1,h1⟩:=x
    rw[ha]at e
    obtain⟨N,G1,σ1,Z1,ρ1,k1,k2,k3,k4⟩:=ih _ _ _ _ _ _ _ ha Z ρ σ G H hF
    cases e1 with
    |norm=>
     obtain⟨N2,G',σ',Z',ρ',p1,p2,p3,p4⟩:=ih _ _ _ _ _ _ _ e Z1 ρ1 σ1 G1 k2 k3
     refine⟨max N N2+1,G',σ',Z',ρ',?_,p2,p3,k4.trans p4 H.nd⟩
     grind[B3,HM,le_max_right]
    |exit id=>cases e;exact⟨N+1,G1,σ1,Z1,ρ1,by simp only[B3,k1],k2,k3,k4⟩
    |ret=>cases e;exact⟨N+1,G1,σ1,Z1,ρ1,by simp only[B3,k1],k2,k3,k4⟩
  |cond x a b=>
   have hx:=hF.ev x
   simp only[Aw]at e
   split at e
   .rename_i hv
    rw[hv]at hx
    generalize hw:Fr.ev G x=w at hx
    cases hx
    obtain⟨N,G',σ',Z',ρ',k1,k2,k3,k4⟩:=ih _ _ _ _ _ _ _ e Z ρ σ G H hF
    exact⟨N+1,G',σ',Z',ρ',by simp only[B3,hw];exact k1,k2,k3,k4⟩
   .rename_i hv
    rw[hv]at hx
    generalize hw:Fr.ev G x=w at hx
    cases hx
    obtain⟨N,G',σ',Z',ρ',k1,k2,k3,k4⟩:=ih _ _ _ _ _ _ _ e Z ρ σ G H hF
    exact⟨N+1,G',σ',Z',ρ',by simp only[B3,hw];exact k1,k2,k3,k4⟩
   .cases e
  |block id c=>
   simp only[Aw]at e
   cases ha:Aw V n m c F h with
   |none=>rw[ha]at e;cases e
   |some x=>
    obtain⟨e1,F1,h1⟩:=x
    rw[ha]at e
    obtain⟨N,G1,σ1,Z1,ρ1,k1,k2,k3,k4⟩:=ih _ _ _ _ _ _ _ ha Z ρ σ G H hF
    cases e1 with
    |norm=>cases e;exact⟨N+1,G1,σ1,Z1,ρ1,by simp only[B3,k1],k2,k3,k4⟩
    |ret=>cases e;exact⟨N+1,G1,σ1,Z1,ρ1,by simp only[B3,k1],k2,k3,k4⟩
    |exit id'=>
     simp only at e
     cases hb:Nat.beq id' id with
     |true=>rw[hb]at e;cases e;exact⟨N+1,G1,σ1,Z1,ρ1,by simp only[B3,k1,hb,cond_true],k2,k3,k4⟩
     |false=>rw[hb]at e;cases e;exact⟨N+1,G1,σ1,Z1,ρ1,by simp only[B3,k1,hb,cond_false],k2,k3,k4⟩
  |loop c=>
   simp only[Aw]at e
   cases ha:Aw V n m c F h with
   |none=>rw[ha]at e;cases e
   |some x=>
    obtain⟨e1,F1,h1⟩:=x
    rw[ha]at e
    obtain⟨N,G1,σ1,Z1,ρ1,k1,k2,k3,k4⟩:=ih _ _ _ _ _ _ _ ha Z ρ σ G H hF
    cases e1 with
    |norm=>
     simp only at e
     split at e
     .rename_i hk
      obtain⟨H2,r2,l2,f2⟩:=H.cut k2 k4.rl hk
      obtain⟨N2,G',σ',Z',ρ',p1,p2,p3,p4⟩:=ih _ _ _ _ _ _ _ e Z1 (La ρ1 h.length) σ1 G1 H2 (f2 _ _ k3)
      have E2:Ev Z ρ h σ Z1 (La ρ1 h.length) (h1.take h.length) σ1:=⟨k4.zl,r2,k4.nx,k4.keep,fun id hl=>k4.lv id (l2 id hl),k4.zd⟩
      refine⟨max N N2+1,G',σ',Z',ρ',?_,p2,p3,E2.trans p4 H.nd⟩
      grind[B3,HM,le_max_right]
     .obtain⟨N2,G',σ',Z',ρ',p1,p2,p3,p4⟩:=ih _ _ _ _ _ _ _ e Z1 ρ1 σ1 G1 k2 k3
      refine⟨max N N2+1,G',σ',Z',ρ',?_,p2,p3,k4.trans p4 H.nd⟩
      grind[B3,HM,le_max_right]
    |exit id=>cases e;exact⟨N+1,G1,σ1,Z1,ρ1,by simp only[B3,k1],k2,k3,k4⟩
    |ret=>cases e;exact⟨N+1,G1,σ1,Z1,ρ1,by simp only[B3,k1],k2,k3,k4⟩
  |exit id=>
   simp only[Aw,Option.some.injEq,Prod.mk.injEq]at e
   obtain⟨rfl,rfl,rfl⟩:=e
   exact⟨1,G,σ,Z,ρ,rfl,H,hF,Ev.refl⟩
  |ret=>
   simp only[Aw,Option.some.injEq,Prod.mk.injEq]at e
   obtain⟨rfl,rfl,rfl⟩:=e
   exact⟨1,G,σ,Z,ρ,rfl,H,hF,Ev.refl⟩
  |fail=>simp[Aw]at e
end
def ZW(r r':Pl):Prop:=∀vf args h x,r vf args h=some x->r' vf args h=some x
section
variable {V:Ai}{r r':Pl}
open Classical in
theorem Sc(hr:ZW r r'){m g:Nat}{args:List VV}{h:VH}{x:VV×VH}(e:J4 V r m g args h=some x):J4 V r' m g args h=some x:=by
 unfold J4 at e ⊢
 split
 .split
  .rename_i y hy;rw[hy]at e;exact e
  .rename_i hy
   rw[hy]at e
   simp only at e
   cases hf:V.fn g with
   |none=>rw[hf]at e;cases e
   |some vf=>
    rw[hf]at e
    simp only at e ⊢
    cases hp:Gt h args with
    |none=>rw[hp]at e;cases e
    |some q=>
     rw[hp]at e
     simp only at e ⊢
     cases hq:r vf q.1 []with
     |none=>rw[hq]at e;cases e
     |some y=>rw[hq]at e;rw[hr _ _ _ _ hq];exact e
 .cases hf:V.fn g with
  |none=>rw[hf]at e;cases e
  |some vf=>
   rw[hf]at e
   simp only at e ⊢
   cases hp:Gt h args with
   |none=>rw[hp]at e;cases e
   |some q=>
    rw[hp]at e
    simp only at e ⊢
    cases hq:r vf q.1 []with
    |none=>rw[hq]at e;cases e
    |some y=>rw[hq]at e;rw[hr _ _ _ _ hq];exact e
 .cases hf:V.fnH g with
  |none=>rw[hf]at e;cases e
  |some vf=>
   rw[hf]at e
   simp only at e ⊢
   exact hr _ _ _ _ e
 .rename_i h0 h1 h2
  have e':(match V.fnH g with
   |some vf=>(match r vf args h with
    |some (v,h2)=>(match frz h2 dF v with
     |some (r,ids)=>if LT h.length h (Bw ids h2)then some (r,(Bw ids h2).take h.length)else none
     |none=>none)
    |none=>none)
   |none=>none)=some x:=by
   grind
  cases hf:V.fnH g with
  |none=>rw[hf]at e';cases e'
  |some vf=>
   rw[hf]at e'
   simp only at e' ⊢
   cases hq:r vf args h with
   |none=>rw[hq]at e';cases e'
   |some y=>rw[hq]at e';rw[hr _ _ _ _ hq];exact e'
theorem NO(hr:ZW r r'){m g:Nat}{args:List VV}{h:VH}(e:GM V r m g args h=true):GM V r' m g args h=true:=by
 unfold GM at e ⊢
 cases hm:Nat.beq m 4 with
 |false=>rfl
 |true=>
  rw[hm]at e
  simp only[cond_true]at e ⊢
  cases hf:V.fnH g with
  |none=>rw[hf]at e;cases e
  |some vf=>
   rw[hf]at e
   simp only at e ⊢
   obtain⟨x,hx⟩:=Option.isSome_iff_exists.1 e
   rw[hr _ _ _ _ hx];rfl
theorem JA(hr:ZW r r'){m:Nat}{op:Bl}{F:A3}{h:VH}{x:VV×VH}(e:JJ V r m op F h=some x):JJ V r' m op F h=some x:=by
 cases op<;>first|exact e|skip
 grind[JJ,NO,Sc]
theorem U2(hr:ZW r r'){m:Nat->Nat}:∀(ops:List Ay) (F:A3) (h:VH) (x:A3×VH),Pw V m r ops F h=some x->Pw V m r' ops F h=some x:=by
 intro ops
 induction ops with
 |nil=>intro F h x e;exact e
 |cons o os ih=>
  grind[Pw,JA]
theorem Pj(hr:ZW r r'){m:Nat->Nat}:∀(ops:List AE) (L:JP) (F:A3) (h:VH) (x:A3×VH),Gc V m r ops L F h=some x->Gc V m r' ops L F h=some x:=by
 intro ops
 induction ops with
 |nil=>intro L F h x e;exact e
 |cons o os ih=>
  intro L F h x e
  simp only[Gc]at e ⊢
  split at e
  .split at e
   .rename_i v h1 hv
    rw[JA hr hv]
    grind
   .cases e
  .exact ih _ _ _ _ e
  .cases e
theorem U3{e e':(Nat->Nat)->AaS}(h:∀m c F hh r,e m c F hh=some r->e' m c F hh=some r):ZW (Ha e) (Ha e'):=by
 intro vf args hh x hx
 grind[Ha]
theorem CI:∀{n k:Nat},n<=k->∀{m:Nat->Nat} {c:A1} {F:A3} {h:VH} {x:Ex×A3×VH},Aw V n m c F h=some x->Aw V k m c F h=some x:=by
 intro n
 induction n with
 |zero=>grind[Aw]
 |succ n ih=>
  intro k hk m c F h x e
  obtain⟨k,rfl⟩:∃j,k=j+1:=⟨k-1,by omega⟩
  have hnk:n<=k:=by omega
  have hR:ZW (Ha (Aw V n)) (Ha (Aw V k)):=U3 fun m c F h r e=>ih hnk e
  cases c with
  |skip=>simpa only[Aw]using e
  |reg ops=>
   grind[Aw,U2]
  |dreg ops=>
   grind[Aw,Pj]
  |seq a b=>
   grind[Aw]
  |cond y a b=>
   grind[Aw]
  |block id c=>
   grind[Aw]
  |loop c=>
   simp only[Aw]at e ⊢
   grind
  |exit id=>simpa only[Aw]using e
  |ret=>simpa only[Aw]using e
  |fail=>simp[Aw]at e
theorem Dw{n k:Nat}(h:n<=k):ZW (Ha (Aw V n)) (Ha (Aw V k)):=U3 fun _ _ _ _ _ e=>CI h e
end
section
variable (V:Ai)
def Vc(m:Nat->Nat)(c:A1)(F:A3)(h:VH)(Q:Ex->A3->VH->Prop):Prop:=∃n e F' h',Aw V n m c F h=some (e,F',h')/\Q e F' h'
def Vb(vf:Gd)(args:List VV)(h:VH)(Q:VV->VH->Prop):Prop:=∃n v h',Ha (Aw V n) vf args h=some (v,h')/\Q v h'
def Vo(m:Nat)(op:Bl)(F:A3)(h:VH)(Q:VV->VH->Prop):Prop:=∃n v h',JJ V (Ha (Aw V n)) m op F h=some (v,h')/\Q v h'
def Vr(m:Nat->Nat)(ops:List Ay)(F:A3)(h:VH)(Q:A3->VH->Prop):Prop:=∃n F' h',Pw V m (Ha (Aw V n)) ops F h=some (F',h')/\Q F' h'
def Vs(m:Nat->Nat)(ops:List AE)(L:JP)(F:A3)(h:VH)(Q:A3->VH->Prop):Prop:=∃n F' h',Gc V m (Ha (Aw V n)) ops L F h=some (F',h')/\Q F' h'
def VP(g:Nat)(pa:List VV)(Q:VV->Prop):Prop:=match V.ext g with
 |some x=>∃v,x pa=some v/\scal v=true/\Q v
 |none=>∃vf,V.fn g=some vf/\Vb V vf pa [] fun v h2=>∃r ids,frz h2 dF v=some (r,ids)/\Q r
def VP1(g:Nat)(pa:List VV)(base:Nat)(Q:VV->VH->Prop):Prop:=∃vf,V.fn g=some vf/\Vb V vf pa [] fun v h2=>∃r T,Bp h2 dF base v=some (r,T)/\(T.moved.Nodup/\∀id∈T.moved,id∉T.frozen)/\Q r T.objs
def Lx(g:Nat)(args:List VV)(h:VH)(Q:VV->VH->Prop):Prop:=∃vf,V.fnH g=some vf/\Vb V vf args h Q
def J7(g:Nat)(args:List VV)(h:VH)(Q:VV->VH->Prop):Prop:=∃vf,V.fnH g=some vf/\Vb V vf args h fun v h2=>∃r ids,frz h2 dF v=some (r,ids)/\LT h.length h (Bw ids h2)/\Q r ((Bw ids h2).take h.length)
end
section
variable {V:Ai}
theorem Vb.mono{vf:Gd}{args:List VV}{h:VH}{Q Q':VV->VH->Prop}(k:Vb V vf args h Q)(i:∀v h',Q v h'->Q' v h'):Vb V vf args h Q':=by
 obtain⟨n,v,h',h1,h2⟩:=k
 exact⟨n,v,h',h1,i _ _ h2⟩
theorem Vc.mono{m:Nat->Nat}{c:A1}{F:A3}{h:VH}{Q Q':Ex->A3->VH->Prop}(k:Vc V m c F h Q)(i:∀e F' h',Q e F' h'->Q' e F' h'):Vc V m c F h Q':=by
 obtain⟨n,e,F',h',h1,h2⟩:=k
 exact⟨n,e,F',h',h1,i _ _ _ h2⟩
theorem VP.mono{g:Nat}{pa:List VV}{Q Q':VV->Prop}(k:VP V g pa Q)(i:∀v,Q v->Q' v):VP V g pa Q':=by
 unfold VP at k ⊢
 split
 .grind
 .rename_i hx
  rw[hx]at k
  obtain⟨vf,h1,h2⟩:=k
  exact⟨vf,h1,h2.mono fun v h2 ⟨r,ids,q1,q2⟩=>⟨r,ids,q1,i _ q2⟩⟩
theorem Uf{vf:Gd}{args:List VV}{h:VH}{Q Q':VV->VH->Prop}(a:Vb V vf args h Q)(b:Vb V vf args h Q'):Vb V vf args h fun v h'=>Q v h'/\Q' v h':=by
 obtain⟨n,v,h',h1,h2⟩:=a
 obtain⟨k,w,k',k1,k2⟩:=b
 have e1:=Dw (le_max_left n k) _ _ _ _ h1
 have e2:=Dw (le_max_right n k) _ _ _ _ k1
 rw[e1]at e2
 cases e2
 exact⟨_,v,h',e1,h2,k2⟩
theorem Af{g:Nat}{pa:List VV}{x:VV}(k:VP V g pa (fun r=>r=x)){Q:VV->Prop}:VP V g pa Q↔Q x:=by
 constructor
 .intro k2
  unfold VP at k k2
  split at k
  .grind
  .rename_i hy
   rw[hy]at k2
   obtain⟨vf,h1,h2⟩:=k
   obtain⟨vf2,q1,q2⟩:=k2
   rw[h1]at q1
   cases q1
   obtain⟨n,v,h',_,⟨r,ids,e1,e2⟩,⟨r2,ids2,f1,f2⟩⟩:=Uf h2 q2
   grind
 .intro q;exact k.mono fun r e=>e ▸ q
theorem JW{g:Nat}{pa:List VV}{base:Nat}{x:VV}{y:VH}(k:VP1 V g pa base (fun r os=>r=x/\os=y)){Q:VV->VH->Prop}:VP1 V g pa base Q↔Q x y:=by
 obtain⟨vf,h1,h2⟩:=k
 constructor
 .rintro⟨vf2,q1,q2⟩
  rw[h1]at q1
  cases q1
  obtain⟨n,v,h',_,⟨r,T,e1,_,e2,e3⟩,⟨r2,T2,f1,_,f2⟩⟩:=Uf h2 q2
  grind
 .intro q
  exact⟨vf,h1,h2.mono fun v h' ⟨r,T,e1,e2,e3,e4⟩=>⟨r,T,e1,e2,e3 ▸ e4 ▸ q⟩⟩
theorem MX{g:Nat}{pa:List VV}{h:VH}{x:VV}{y:VH}(k:Lx V g pa h (fun r h'=>r=x/\h'=y)){Q:VV->VH->Prop}:Lx V g pa h Q↔Q x y:=by
 obtain⟨vf,h1,h2⟩:=k
 constructor
 .rintro⟨vf2,q1,q2⟩
  rw[h1]at q1
  cases q1
  obtain⟨n,v,h',_,⟨e2,e3⟩,f2⟩:=Uf h2 q2
  exact e2 ▸ e3 ▸ f2
 .intro q
  exact⟨vf,h1,h2.mono fun v h' ⟨e3,e4⟩=>e3 ▸ e4 ▸ q⟩
theorem Ja{g:Nat}{pa:List VV}{h:VH}{x:VV}{y:VH}(k:J7 V g pa h (fun r h'=>r=x/\h'=y)){Q:VV->VH->Prop}:J7 V g pa h Q↔Q x y:=by
 obtain⟨vf,h1,h2⟩:=k
 constructor
 .rintro⟨vf2,q1,q2⟩
  rw[h1]at q1
  cases q1
  obtain⟨n,v,h',_,⟨r,ids,e1,_,e2,e3⟩,⟨r2,ids2,f1,_,f2⟩⟩:=Uf h2 q2
  rw[e1]at f1
  cases f1
  exact e2 ▸ e3 ▸ f2
 .intro q
  exact⟨vf,h1,h2.mono fun v h' ⟨r,ids,e1,e2,e3,e4⟩=>⟨r,ids,e1,e2,e3 ▸ e4 ▸ q⟩⟩
theorem Qg{m:Nat->Nat}{F:A3}{h:VH}{Q:A3->VH->Prop}:Vr V m [] F h Q↔Q F h:=
 ⟨fun⟨n,F',h',e,hq⟩=>by simp only[Pw,Option.some.injEq,Prod.mk.injEq]at e;obtain⟨rfl,rfl⟩:=e;exact hq,fun q=>⟨0,F,h,rfl,q⟩⟩
theorem KC{m:Nat->Nat}{o:Ay}{r:List Ay}{F:A3}{h:VH}{Q:A3->VH->Prop} :
  Vr V m (o::r) F h Q↔(match Cv F o.g with
   |some true=>Vo V (DS m o.dst) o.op F h (fun v h'=>Vr V m r (BM F o.dst v) h' Q)
   |some false=>Vr V m r (BM F o.dst VV.nul) h Q
   |none=>False):=by
 unfold Vr
 simp only[Pw]
 rcases hw:Cv F o.g with _|_|_
 rotate_left 2
 .dsimp only
  constructor
  .rintro⟨n,F',h',e,hq⟩
   split at e
   .rename_i v h1 hv;exact⟨n,v,h1,hv,n,F',h',e,hq⟩
   .cases e
  .rintro⟨n,v,h1,hv,k,F',h',e,hq⟩
   refine⟨max n k,F',h',?_,hq⟩
   rw[JA (Dw (le_max_left n k)) hv]
   exact U2 (Dw (le_max_right n k)) _ _ _ _ e
 .simp
 .exact Iff.rfl
theorem AaU{m:Nat->Nat}{L:JP}{F:A3}{h:VH}{Q:A3->VH->Prop}:Vs V m [] L F h Q↔Q F h:=
 ⟨fun⟨n,F',h',e,hq⟩=>by simp only[Gc,Option.some.injEq,Prod.mk.injEq]at e;obtain⟨rfl,rfl⟩:=e;exact hq,fun q=>⟨0,F,h,rfl,q⟩⟩
theorem Py{m:Nat->Nat}{s:AE}{r:List AE}{L:JP}{F:A3}{h:VH}{Q:A3->VH->Prop} :
  Vs V m (s::r) L F h Q↔(match Cv F s.o.g with
   |some true=>Vo V (DS m s.o.dst) s.o.op F h (fun v h'=>C3 (BM F s.o.dst v) h' (Dd (DS m s.o.dst) s.o.dst s.o.op F h L) s.chk/\Vs V m r (Dd (DS m s.o.dst) s.o.dst s.o.op F h L) (BM F s.o.dst v) h' Q)
   |some false=>Vs V m r (Hj s.o.dst L) (BM F s.o.dst VV.nul) h Q
   |none=>False):=by
 unfold Vs
 simp only[Gc]
 rcases hw:Cv F s.o.g with _|_|_
 rotate_left 2
 .dsimp only
  constructor
  .rintro⟨n,F',h',e,hq⟩
   split at e
   .rename_i v h1 hv
    split at e
    .rename_i hc;exact⟨n,v,h1,hv,hc,n,F',h',e,hq⟩
    .cases e
   .cases e
  .rintro⟨n,v,h1,hv,hc,k,F',h',e,hq⟩
   refine⟨max n k,F',h',?_,hq⟩
   rw[JA (Dw (le_max_left n k)) hv]
   simp only
   rw[if_pos hc]
   exact Pj (Dw (le_max_right n k)) _ _ _ _ _ e
 .simp
 .exact Iff.rfl
theorem Ail{m:Nat}{op:Bl}{F:A3}{h:VH}{Q:VV->VH->Prop}(hc:∀f args,op≠.call f args):Vo V m op F h Q↔∃v h',Df m op F h=some (v,h')/\Q v h':=by
 have e:∀n,JJ V (Ha (Aw V n)) m op F h=Df m op F h:=fun n=>by cases op<;>first|rfl|exact absurd rfl (hc _ _)
 unfold Vo
 simp only[e]
 exact⟨fun⟨n,h⟩=>h,fun h=>⟨0,h⟩⟩
def VC(V:Ai)(m:Nat)(g:Nat)(args:List VV)(h:VH)(Q:VV->VH->Prop):Prop:=match m with
 |0=>∃pa ids,Gt h args=some (pa,ids)/\VP V g pa fun r=>Q r (bif scal r then h else Bw ids h)
 |1=>∃pa ids,Gt h args=some (pa,ids)/\VP1 V g pa h.length fun r os=>Q r (Bw ids h++os)
 |2=>Lx V g args h Q
 |_=>J7 V g args h Q
def VC4(V:Ai)(m:Nat)(g:Nat)(args:List VV)(h:VH):Prop:=m=4->Lx V g args (Bw (Kd args h) h) fun _ _=>True
theorem A9e{m g:Nat}{args:List VV}{h:VH}(k:VC4 V m g args h):∃n,GM V (Ha (Aw V n)) m g args h=true:=by
 unfold GM
 cases hm:Nat.beq m 4 with
 |false=>exact⟨0,rfl⟩
 |true=>
  obtain⟨vf,h1,n,v,h',h2,_⟩:=k (eq_of_beq_eq_true hm)
  refine⟨n,?_⟩
  simp only[cond_true,h1,h2];rfl
theorem A9f{m g n:Nat}{args:List VV}{h:VH}(k:GM V (Ha (Aw V n)) m g args h=true):VC4 V m g args h:=by
 intro hm
 subst hm
 unfold GM at k
 have:Nat.beq 4 4=true:=rfl
 rw[this,cond_true]at k
 split at k
 .rename_i vf hvf
  obtain⟨⟨v,h'⟩,hx⟩:=Option.isSome_iff_exists.1 k
  exact⟨vf,hvf,n,v,h',hx,trivial⟩
 .cases k
theorem A02{m:Nat}{f:Ar}{args:List Ar}{F:A3}{h:VH}{Q:VV->VH->Prop}{g:Nat}{a c:List VV}(hf:A3.ev F f=.f g a c)(h4:VC4 V m g (a++args.map (A3.ev F)++c) h)
  (hv:∃n v h',J4 V (Ha (Aw V n)) m g (a++args.map (A3.ev F)++c) h=some (v,h')/\Q v h'):Vo V m (.call f args) F h Q:=by
 obtain⟨n,v,h',e,q⟩:=hv
 obtain⟨k,e4⟩:=A9e h4
 refine⟨max n k,v,h',?_,q⟩
 simp only[JJ,hf]
 rw[NO (Dw (le_max_right n k)) e4,cond_true]
 exact Sc (Dw (le_max_left n k)) e
theorem Qf{m:Nat}{f:Ar}{args:List Ar}{F:A3}{h:VH}{Q:VV->VH->Prop}{g:Nat}{a c:List VV}(hf:A3.ev F f=.f g a c)(hv:VC V m g (a++args.map (A3.ev F)++c) h Q)(h4:VC4 V m g (a++args.map (A3.ev F)++c) h):Vo V m (.call f args) F h Q:=by
 refine A02 hf h4 ?_
 clear h4
 generalize a++args.map (A3.ev F)++c=av at hv ⊢
 unfold VC at hv
 split at hv
 .obtain⟨pa,ids,h1,h2⟩:=hv
  unfold VP at h2
  split at h2
  .rename_i x hx
   obtain⟨v,q1,q2,q3⟩:=h2
   rw[q2]at q3
   exact⟨0,v,h,by unfold J4;simp only[hx,h1,q1,q2,cond_true],q3⟩
  .rename_i hx
   obtain⟨vf,q1,n,v,h2,q2,r,ids2,q3,q4⟩:=h2
   exact⟨n,r,_,by unfold J4;simp only[hx,q1,h1,q2,q3],q4⟩
 .obtain⟨pa,ids,h1,vf,q1,n,v,h2,q2,r,T,q3,q4,q5⟩:=hv
  exact⟨n,r,_,by unfold J4;simp only[q1,h1,q2,q3];rw[if_pos q4],q5⟩
 .obtain⟨vf,q1,n,v,h2,q2,q3⟩:=hv
  exact⟨n,v,h2,by unfold J4;simp only[q1,q2],q3⟩
 .rename_i h0 h1' h2'
  obtain⟨vf,q1,n,v,h2,q2,r,ids,q3,q4,q5⟩:=hv
  refine⟨n,r,_,?_,q5⟩
  unfold J4
  rcases m with _|_|_|m
  .exact absurd rfl h0
  .exact absurd rfl h1'
  .exact absurd rfl h2'
  .simp only[q1,q2,q3]
   rw[if_pos q4]
theorem A2i{m:Nat}{f:Ar}{args:List Ar}{F:A3}{h:VH}{Q:VV->VH->Prop}{g:Nat}{a c:List VV}(hf:A3.ev F f=.f g a c)(hv:Vo V m (.call f args) F h Q):VC V m g (a++args.map (A3.ev F)++c) h Q/\VC4 V m g (a++args.map (A3.ev F)++c) h:=by
 obtain⟨n,v,h',e,q⟩:=hv
 simp only[JJ,hf]at e
 generalize a++args.map (A3.ev F)++c=av at e ⊢
 cases h4:GM V (Ha (Aw V n)) m g av h with
 |false=>rw[h4]at e;cases e
 |true=>
 rw[h4,cond_true]at e
 refine⟨?_,A9f h4⟩
 unfold J4 at e
 unfold VC
 split at e
 .split at e
  .rename_i x hx
   split at e
   .rename_i pa ids hp
    split at e
    .rename_i r hr
     cases hs:scal r with
     |false=>rw[hs]at e;cases e
     |true=>
      rw[hs]at e
      cases e
      refine⟨pa,ids,hp,?_⟩
      unfold VP
      rw[hx]
      exact⟨_,hr,hs,by dsimp only;rw[hs];exact q⟩
    .cases e
   .cases e
  .rename_i hx
   split at e
   .rename_i vf hf2
    split at e
    .rename_i pa ids hp
     split at e
     .rename_i v2 h2 hrun
      split at e
      .rename_i r ids2 hq
       cases e
       refine⟨pa,ids,hp,?_⟩
       unfold VP
       rw[hx]
       exact⟨vf,hf2,n,v2,h2,hrun,_,ids2,hq,q⟩
      .cases e
     .cases e
    .cases e
   .cases e
 .split at e
  .rename_i vf hf2
   split at e
   .rename_i pa ids hp
    split at e
    .rename_i v2 h2 hrun
     split at e
     .rename_i r T hq
      split at e
      .rename_i hnd
       cases e
       exact⟨pa,ids,hp,vf,hf2,n,v2,h2,hrun,_,T,hq,hnd,q⟩
      .cases e
     .cases e
    .cases e
   .cases e
  .cases e
 .split at e
  .rename_i vf hf2
   exact⟨vf,hf2,n,v,h',e,q⟩
  .cases e
 .rename_i h0 h1' h2'
  split at e
  .rename_i vf hf2
   split at e
   .rename_i v2 h2 hrun
    split at e
    .rename_i r ids hq
     split at e
     .rename_i hk
      cases e
      rcases m with _|_|_|m
      .exact absurd rfl h0
      .exact absurd rfl h1'
      .exact absurd rfl h2'
      .exact⟨vf,hf2,n,v2,h2,hrun,_,ids,hq,hk,q⟩
     .cases e
    .cases e
   .cases e
  .cases e
end
end Go.AM
