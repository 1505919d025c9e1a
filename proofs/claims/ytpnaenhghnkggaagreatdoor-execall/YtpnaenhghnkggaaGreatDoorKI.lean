/-
  Own work, part of the proof of these laws: what functions compute.
-/
import Derived.Test.YtpnaenhghnkggaaGreatDoorKH
set_option maxRecDepth 10000
set_option maxHeartbeats 64000000
set_option linter.unusedVariables false
set_option linter.unusedSimpArgs false
set_option linter.unusedSectionVars false
set_option linter.unnecessarySimpa false
open Bool (and_eq_true false_eq_true)
open Int (toNat_natCast)
open List (getD_eq_getElem?_getD length_map length_append length_take length_set length_cons take_of_length_le nil_append map_append filter_append append_assoc range_succ length_drop cons_append append_nil map_cons mem_cons map_nil set_append_right filter_cons nodup_nil map_set mem_map)
open Nat (zero_le lt_or_ge)
namespace Go.AM
open Go Go.Proofs
abbrev agS(s:A8)(b:Nat):VV:=.ag [.sl b 0 0 s.has.length,.sl (b+1) 0 0 s.jf.length,.sl (b+1+1) 0 0 s.mo.length]
abbrev obS(s:A8):VH:=[some ⟨AG,1,0,false,s.has.map eI⟩,some ⟨AG,1,0,false,s.jf.map eI⟩,some (JK BA 1 (s.mo.map EV))]
theorem A04{ty e:Nat}{rows:List (List VV)}:({ ty:=(JK ty e rows).ty,esz:=(JK ty e rows).esz,ver:=0,nl:=(JK ty e rows).nl,rows:=rows }:VO)=JK ty e rows:=by
 unfold JK
 split
 .rename_i h;rw[List.length_eq_zero_iff.1 h];rfl
 .rfl
theorem QR{α:Type}{g:α->Option (α×List Nat)}:∀(l:List α) (k:Nat) (x y:α) (ids:List Nat),(∀a∈l,g a=some (a,[]))->k<l.length->g x=some (y,ids)->B5 g (l.set k x)=some (l.set k y,ids)
 | [],k,x,y,ids,_,hk,_=>by simp at hk
 |a::l,0,x,y,ids,h,_,hx=>by
  have hl:B5 g l=some (l,[]):=by
   have:∀(l:List α),(∀a∈l,g a=some (a,[]))->B5 g l=some (l,[]):=by
    intro l
    induction l with
    |nil=>intro _;rfl
    |cons b l ih=>intro h;simp only[B5,h b (by simp),ih fun a ha=>h a (by simp[ha]),nil_append]
   exact this l fun a ha=>h a (by simp[ha])
  simp only[List.set_cons_zero,B5,hx,hl,append_nil]
 |a::l,k+1,x,y,ids,h,hk,hx=>by
  have:=QR l k x y ids (fun a ha=>h a (by simp[ha])) (by simpa using hk) hx
  simp only[List.set_cons_succ,B5,h a (by simp),this,nil_append]
theorem Aco{H:VH}{l:List (List (List Int))}{k:Nat}(hk:k<l.length){v:VV}{X:List (List Int)}{ids:List Nat}(hv:frz H 5 v=some (.ls (X.map EG),ids)) :
  B5 (fun row=>B5 (frz H 5) row) (List.take l.length ((l.map EV).set k [v]))=some ((l.set k X).map EV,ids):=by
 rw[take_of_length_le (by simp)]
 rw[map_set]
 refine QR (l.map EV) k [v] (EV X) ids ?_ (by simpa using hk) ?_
 .intro a ha
  obtain⟨c,_,rfl⟩:=List.mem_map.1 ha
  simp only[go_sem,P1]
 .simp only[B5,hv,append_nil]
section
variable {V:Ai}(C:Am V)
include C
theorem RK(t:A2)(ht:A7 t)(s:A8)(hs:GI s)(n kind w:Int)(h0:Cn t s n kind=false)(b:Nat){Q:VV->VH->Prop}:VP1 V GW [vT t,HJ s,.i .i64 n,.i .i64 kind,.i .i64 w] b Q↔Q (.tu [HJ Q2,.b false]) []:=by
 refine JW ?_
 rw[JX C.c_z149.2]
 have h5:=fun(Q:VV->Prop)=>BE C t ht s hs (Q:=Q)
 have e0:(VV.tu [HJ Q2,.b false])=.tu [.ag [.ls [],.ls [],.ls []],.b false]:=rfl
 have h6:=hs.has
 rw[e0]
 cases hf:Bj t s with
 |false=>
  simp only[Cy,go_sem,h5,hf,Bp,Bp.takeL]
  exact nodup_nil
 |true=>
 cases h1:BZ t n with
 |false=>
  simp only[Cy,go_sem,h5,hf,At C,h1,Bp,Bp.takeL]
  exact nodup_nil
 |true=>
 obtain⟨m,rfl,hm⟩:=A9 h1
 cases h2:decide ((t.at m).kind=kind)with
 |false=>
  simp only[Cy,go_sem,h5,hf,At C,h1,A5 hm,h2,Bp,Bp.takeL]
  exact nodup_nil
 |true=>
 have w1:=DQ s.has (m:Int)
 cases h3:AQ s.has (m:Int)with
 |true=>
  rw[h3]at w1
  simp only[Cy,go_sem,h5,hf,At C,h1,A5 hm,h2,Ae C s.has (by omega),w1,Bp,Bp.takeL]
  exact nodup_nil
 |false=>
 rw[h3]at w1
 have w2:=C0 s.has (t.at m).up
 cases h4:AQ s.has (t.at m).up with
 |false=>
  rw[h4]at w2
  simp only[Cy,go_sem,h5,hf,At C,h1,A5 hm,h2,Ae C s.has (by omega),w1,w2,Bp,Bp.takeL]
  exact nodup_nil
 |true=>
  rw[Cn,hf,h1,toNat_natCast,h2,h3,h4]at h0
  cases h0
theorem SR(t:A2)(ht:A7 t)(s:A8)(hs:GI s){m:Nat}(hm:m<t.nodes.length)(kind w:Int)(hok:Cn t s m kind=true)(b:Nat){Q:VV->VH->Prop}:VP1 V GW [vT t,HJ s,.i .i64 m,.i .i64 kind,.i .i64 w] b Q↔Q (.tu [agS (Ba s m w) b,.b true]) (obS (Ba s m w)):=by
 refine JW ?_
 rw[JX C.c_z149.2]
 have hr:=fun(Q:VV->Prop)=>BE C t ht s hs (Q:=Q)
 have q0:=hs.has
 have h1:BZ t (m:Int)=true:=C1 hm
 simp only[Cn,and_eq_true,Bool.not_eq_true',toNat_natCast]at hok
 obtain⟨⟨⟨⟨hf,_⟩,h2⟩,h3⟩,h4⟩:=hok
 have w1:=DQ s.has (m:Int)
 have w2:=C0 s.has (t.at m).up
 rw[h3]at w1
 rw[h4]at w2
 have hq:=fun(b:Nat) (Q:VV->VH->Prop)=>Lq C s hs b (Q:=Q)
 simp only[Cy,go_sem,hr,hf,At C,h1,A5 hm,h2,Ae C s.has (by omega),w1,w2,hq]
 unfold VL
 rw[A0]
 have hy:s.jf.length=s.has.length:=by simp only[Bj,and_eq_true,decide_eq_true_eq]at hf;exact hf.1.1.1.1.2
 refine AJ (M:=Nat) (I:=fun i F h=>i<=Bo s.has m/\A3.tmp F 2=.i .i64 m/\A3.tmp F 4=.i .i64 w/\A3.tmp F 6=.fp (Hd s) 0/\A3.tmp F 10=.p 0 0 0 0/\A3.tmp F 12=.p 4 0 0 0/\A3.tmp F 13=.i .i64 i/\h=moH s) (μ:=fun i=>s.has.length-i) ?_ 0 _ _ ⟨zero_le _,?_,?_,?_,?_,?_,?_,rfl⟩
 .rintro i F h ⟨hi,p2,p4,p6,hk,hl,hn,rfl⟩
  have hg:=Mt hi
  have hz:=Ee s.has m
  by_cases c:i<s.has.length
  .cases c2:decide (s.has.getD i 0<(m:Int))with
   |true=>
    have hd:=of_decide_eq_true c2
    have q1:=hg.1 ⟨c,hd⟩
    have hw:IntKind.i64.wrap ((i:Int)+1)=((i+1:Nat):Int):=by rw[Ax (by omega) (by omega)];omega
    simp only[ER,go_sem,p2,p4,p6,hk,hl,hn,c,Ak c,c2,A0,hw]
    exact⟨i+1,by omega,by omega,rfl,rfl,rfl⟩
   |false=>
    have hd:=of_decide_eq_false c2
    have e:i=Bo s.has m:=by
     rcases lt_or_ge i (Bo s.has m)with h|h
     .exact absurd (Mu h) hd
     .omega
    obtain⟨A,hA⟩:∃A,A=s.has.take i:=⟨_,rfl⟩
    obtain⟨B,hB⟩:∃B,B=s.has.drop i:=⟨_,rfl⟩
    obtain⟨A',h0⟩:∃A,A=s.jf.take i:=⟨_,rfl⟩
    obtain⟨B',h5⟩:∃B,B=s.jf.drop i:=⟨_,rfl⟩
    have lA:A.length=i:=by rw[hA,length_take];omega
    have hv:A'.length=i:=by rw[h0,length_take];omega
    have lB:B.length=s.has.length-i:=by rw[hB,length_drop]
    have hh:B'.length=s.jf.length-i:=by rw[h5,length_drop]
    have tB:List.take (s.has.length-i) B=B:=take_of_length_le (by omega)
    have hp:List.take (s.jf.length-i) B'=B':=take_of_length_le (by omega)
    have c1:i<=s.has.length:=by omega
    have hc:i<=s.jf.length:=by omega
    have b1:A.length * 8<=A6:=by unfold A6;omega
    have h9:A'.length * 8<=A6:=by unfold A6;omega
    have b2:(A.length+1) * 8<=A6:=by unfold A6;omega
    have ha:(A'.length+1) * 8<=A6:=by unfold A6;omega
    obtain⟨b0,Bs,rfl⟩:∃b0 Bs,B=b0::Bs:=by
     cases B with
     |nil=>simp at lB;omega
     |cons b0 Bs=>exact⟨b0,Bs,rfl⟩
    obtain⟨h8,h6,rfl⟩:∃b0 Bs,B'=b0::Bs:=by
     cases B' with
     |nil=>simp at hh;omega
     |cons b0 Bs=>exact⟨b0,Bs,rfl⟩
    rw[length_cons]at lB hh
    have hx:List.take (s.has.length-i) (eI b0::List.map eI Bs)=eI b0::List.map eI Bs:=take_of_length_le (by simp;omega)
    have ho:List.take (s.jf.length-i) (eI h8::List.map eI h6)=eI h8::List.map eI h6:=take_of_length_le (by simp;omega)
    obtain⟨X,hX⟩:∃X,X=A++[(m:Int)]++b0::Bs:=⟨_,rfl⟩
    obtain⟨X',he⟩:∃X,X=A'++[w]++h8::h6:=⟨_,rfl⟩
    have jX:List.map eI (A++[(m:Int)])++eI b0::List.map eI Bs=List.map eI X:=by rw[hX,map_append (l₁:=A++[(m:Int)])];rfl
    have hu:List.map eI (A'++[w])++eI h8::List.map eI h6=List.map eI X':=by rw[he,map_append (l₁:=A'++[w])];rfl
    have lX:A.length+1+(Bs.length+1)=X.length:=by rw[hX];simp;omega
    have hj:A'.length+1+(h6.length+1)=X'.length:=by rw[he];simp;omega
    have b3:X.length * 8<=A6:=by unfold A6;omega
    have hb:X'.length * 8<=A6:=by unfold A6;omega
    have eX:X=Be s.has (Bo s.has m) m:=by rw[hX,Be,<- e,<- hA,<- hB];simp
    have h7:X'=Be s.jf (Bo s.has m) w:=by rw[he,Be,<- e,<- h0,<- h5];simp
    simp only[ER,go_sem,p2,p4,p6,hk,hl,hn,c,Ak c,c2,A0,moH,<- hA,<- hB,<- h0,<- h5,hx,ho,c1,hc,b1,h9,b2,ha,b3,hb,length_append,length_map,Me,KD,Md,Bp,Bp.takeL,jX,hu,lX,hj]
    exact⟨by decide,by rw[eX,h7];rfl,by rw[A04,eX,h7];rfl⟩
  .have e:i=Bo s.has m:=by omega
   obtain⟨A,hA⟩:∃A,A=s.has.take i:=⟨_,rfl⟩
   obtain⟨B,hB⟩:∃B,B=s.has.drop i:=⟨_,rfl⟩
   obtain⟨A',h0⟩:∃A,A=s.jf.take i:=⟨_,rfl⟩
   obtain⟨B',h5⟩:∃B,B=s.jf.drop i:=⟨_,rfl⟩
   have lA:A.length=i:=by rw[hA,length_take];omega
   have hv:A'.length=i:=by rw[h0,length_take];omega
   have lB:B.length=s.has.length-i:=by rw[hB,length_drop]
   have hh:B'.length=s.jf.length-i:=by rw[h5,length_drop]
   have tB:List.take (s.has.length-i) B=B:=take_of_length_le (by omega)
   have hp:List.take (s.jf.length-i) B'=B':=take_of_length_le (by omega)
   have c1:i<=s.has.length:=by omega
   have hc:i<=s.jf.length:=by omega
   have b1:A.length * 8<=A6:=by unfold A6;omega
   have h9:A'.length * 8<=A6:=by unfold A6;omega
   have b2:(A.length+1) * 8<=A6:=by unfold A6;omega
   have ha:(A'.length+1) * 8<=A6:=by unfold A6;omega
   obtain rfl:B=[]:=List.length_eq_zero_iff.1 (by omega)
   obtain rfl:B' = []:=List.length_eq_zero_iff.1 (by omega)
   have b3:(A.length+1+0) * 8<=A6:=by unfold A6;omega
   have hb:(A'.length+1+0) * 8<=A6:=by unfold A6;omega
   simp only[ER,go_sem,p2,p4,p6,hk,hl,hn,c,A0,moH,<- hA,<- hB,<- h0,<- h5,tB,hp,c1,hc,b1,h9,b2,ha,b3,hb,length_append,length_map,Me,KD,Md,Bp,Bp.takeL]
   have eX:A++[(m:Int)]=Be s.has (Bo s.has m) m:=by rw[Be,<- e,<- hA,<- hB]
   have h7:A'++[w]=Be s.jf (Bo s.has m) w:=by rw[Be,<- e,<- h0,<- h5]
   have lX:A.length+1=(Be s.has (Bo s.has m) m).length:=by rw[<- eX];simp
   have hj:A'.length+1=(Be s.jf (Bo s.has m) w).length:=by rw[<- h7];simp
   exact⟨by decide,by rw[lX,hj];rfl,by rw[A04,eX,h7];rfl⟩
 .simp only[go_sem]
 .simp only[go_sem]
 .simp only[go_sem]
 .simp only[go_sem]
 .simp only[go_sem]
 .simp only[go_sem]
theorem A1A(t:A2)(ht:A7 t)(s:A8)(hs:GI s)(n:Int){Q:VV->Prop}:VP V A8a [vT t,HJ s,.i .i64 n] Q↔Q (HZ (D1 t s n 4 (-1))):=by
 refine Af ?_
 rw[Ad C.c_z78.1 C.c_z78.2]
 have hm:=fun(Q:VV->Prop)=>MH C t ht s hs n 4 (-1) (Q:=Q)
 cases h:D1 t s n 4 (-1)with
 |none=>
  rw[h]at hm
  simp only[HZ,Q2]at hm ⊢
  simp only[A6s,go_sem,hm]
  rfl
 |some s'=>
  rw[h]at hm
  simp only[HZ]at hm ⊢
  simp only[A6s,go_sem,hm]
def Lp(t:A2)(s:A8)(n w:Int):Option A8:=match D1 t s n 2 w with
 |some s'=>if Bj t s'=true then some s' else none
 |none=>none
theorem Zl(t:A2)(ht:A7 t)(s:A8)(hs:GI s)(hz:s.has.length<1000/\s.jf.length<1000)(n w:Int){Q:VV->Prop}:VP V A8b [vT t,HJ s,.i .i64 n,.i .i64 w] Q↔Q (HZ (Lp t s n w)):=by
 refine Af ?_
 rw[Ad C.c_z79.1 C.c_z79.2]
 have hm:=fun(Q:VV->Prop)=>MH C t ht s hs n 2 w (Q:=Q)
 unfold Lp
 cases h:D1 t s n 2 w with
 |none=>
  rw[h]at hm
  simp only[HZ,Q2]at hm ⊢
  simp only[A0D,go_sem,hm]
  rfl
 |some s'=>
  rw[h]at hm
  have h2:GI s':=by
   rw[D1]at h
   split at h
   .rename_i h0
    cases h
    have h1:=Ee s.has n
    have hj:s.jf.length=s.has.length:=by
     simp only[Cn,Bj,and_eq_true,decide_eq_true_eq]at h0
     exact h0.1.1.1.1.1.1.1.1.2
    exact⟨by show(Be _ _ _).length<=1000;rw[DL h1];omega,by show(Be _ _ _).length<=1000;rw[DL (by omega)];omega,hs.mo,hs.mi,hs.mc⟩
   .cases h
  have hf:=fun(Q:VV->Prop)=>BE C t ht s' h2 (Q:=Q)
  cases hff:Bj t s' with
  |false=>
   simp only[HZ,Q2,hff,false_eq_true,if_false]at hm ⊢
   simp only[A0D,go_sem,hm,hf,hff]
   rfl
  |true=>
   simp only[HZ,hff,if_true]at hm ⊢
   simp only[A0D,go_sem,hm,hf,hff]
def Hc(t:A2)(s:A8)(n at_:Int):Option A8:=match D1 t s n 3 (-1)with
 |some s'=>if at_<1\/((s'.mo.getD (t.at n.toNat).loc.toNat []).length:Int)<at_ then none else
   some { s' with mo:=s'.mo.set (t.at n.toNat).loc.toNat ((s'.mo.getD (t.at n.toNat).loc.toNat []).take at_.toNat++[n]::(s'.mo.getD (t.at n.toNat).loc.toNat []).drop at_.toNat) }
 |none=>none
theorem SO(t:A2)(ht:A7 t)(s:A8)(hs:GI s)(n at_:Int){Q:VV->Prop}:VP V A8c [vT t,HJ s,.i .i64 n,.i .i64 at_] Q↔Q (HZ (Hc t s n at_)):=by
 refine Af ?_
 rw[Ad C.c_z81.1 C.c_z81.2]
 unfold Hc D1
 cases hok:Cn t s n 3 with
 |false=>
  have hm:=fun(b:Nat) (Q:VV->VH->Prop)=>RK C t ht s hs n 3 (-1) hok b (Q:=Q)
  simp only[HZ,Q2,false_eq_true,if_false]at hm ⊢
  simp only[QC,go_sem,hm]
  rfl
 |true=>
  have h7:=hok
  simp only[Cn,and_eq_true,decide_eq_true_eq]at h7
  obtain⟨⟨⟨⟨hf,h1⟩,h2⟩,h3⟩,h4⟩:=h7
  obtain⟨m,rfl,h6⟩:=A9 h1
  rw[toNat_natCast]at h2
  have hm:=fun(b:Nat) (Q:VV->VH->Prop)=>SR C t ht s hs h6 3 (-1) hok b (Q:=Q)
  have hg:s.mo.length=t.locs.length:=by simp only[Bj,and_eq_true,decide_eq_true_eq]at hf;exact hf.1.1.1.2
  obtain⟨l0,l1⟩:=ht.wloc h6 (.inr h2)
  obtain⟨loc,h5⟩:=Int.eq_ofNat_of_zero_le l0
  have h9:loc<s.mo.length:=by omega
  rw[if_pos rfl]
  simp only[toNat_natCast,h5]
  have h0:loc<(Ba s m (-1)).mo.length:=h9
  have hz:JK BA 1 (List.map EV (Ba s m (-1)).mo) = ⟨BA,1,0,false,List.map EV (Ba s m (-1)).mo⟩:=by
   unfold JK
   rw[if_neg (by rw[length_map];omega)]
  have Cf:=C7 h0
  have ha:=hs.mi' loc
  obtain⟨L,hL⟩:∃L,L=(Ba s m (-1)).mo.getD loc []:=⟨_,rfl⟩
  rw[<- hL]at Cf
  have he:L.length<=1000:=by rw[hL];exact ha
  rw[<- hL]
  cases c1:decide (at_<1)with
  |true=>
   rw[if_pos (.inl (of_decide_eq_true c1))]
   simp only[HZ,Q2]
   simp only[QC,go_sem,hm,A5 h6,h5,hz,Cf,h0,c1]
   rfl
  |false=>
  have hc:=of_decide_eq_false c1
  obtain⟨a,rfl⟩:=Int.eq_ofNat_of_zero_le (show 0<=at_ by omega)
  have h8:decide ((L.length:Int)<(a:Int))=decide (L.length<a):=decide_eq_decide.2 ⟨fun h=>by omega,fun h=>by omega⟩
  cases c2:decide (L.length<a)with
  |true=>
   have:=of_decide_eq_true c2
   rw[if_pos (.inr (by omega))]
   simp only[HZ,Q2]
   simp only[QC,go_sem,hm,A5 h6,h5,hz,Cf,h0,c1,h8,c2]
   rfl
  |false=>
  have hd:=of_decide_eq_false c2
  rw[if_neg (by omega),toNat_natCast]
  have c3:a<=L.length:=by omega
  obtain⟨A,hA⟩:∃A,A=L.take a:=⟨_,rfl⟩
  obtain⟨B,hB⟩:∃B,B=L.drop a:=⟨_,rfl⟩
  have lA:A.length=a:=by rw[hA,length_take];omega
  have lB:B.length=L.length-a:=by rw[hB,length_drop]
  have b1:A.length * 24<=A6:=by unfold A6;omega
  have b2:(A.length+1) * 24<=A6:=by unfold A6;omega
  have jA:List.map EG A++[[VV.ls [[VV.i .i64 (m:Int)]]]]=List.map EG (A++[[(m:Int)]]):=by rw[map_append];rfl
  rw[<- hA,<- hB]
  cases B with
  |nil=>
   have b3:(A.length+1+0) * 24<=A6:=by unfold A6;omega
   have tB:List.take (L.length-a) ([]:List (List Int))=[]:=List.take_nil
   simp only[QC,go_sem,hm,A5 h6,h5,hz,Cf,h0,c1,h8,c2,c3,<- hA,<- hB,tB,b1,b2,b3,jA,length_append,length_map]
   rw[Aco h0 (X:=A++[[(m:Int)]]) (ids:=[8]) (by simp only[go_sem,length_append,length_map])]
   simp only[go_sem,length_set,length_map]
   rfl
  |cons b0 Bs=>
   rw[length_cons]at lB
   obtain⟨X,hX⟩:∃X,X=A++[[(m:Int)]]++b0::Bs:=⟨_,rfl⟩
   have hb:List.take (L.length-a) (EG b0::List.map EG Bs)=EG b0::List.map EG Bs:=take_of_length_le (by simp;omega)
   have jX:List.map EG (A++[[(m:Int)]])++EG b0::List.map EG Bs=List.map EG X:=by rw[hX,map_append (l₁:=A++[[(m:Int)]])];rfl
   have lX:A.length+1+(Bs.length+1)=X.length:=by rw[hX];simp;omega
   have b3:X.length * 24<=A6:=by unfold A6;omega
   simp only[QC,go_sem,hm,A5 h6,h5,hz,Cf,h0,c1,h8,c2,c3,<- hA,<- hB,hb,b1,b2,b3,jA,jX,lX,length_append,length_map]
   rw[Aco h0 (X:=X) (ids:=[8]) (by simp only[go_sem])]
   simp only[go_sem,length_set,length_map]
   have eX:X=A++[(m:Int)]::b0::Bs:=by rw[hX];simp
   rw[eX];rfl
end
section
variable {V:Ai}{m:Nat->Nat}{Q:Ex->A3->VH->Prop}
theorem Ma{M:Type}(I:M->A3->VH->Prop)(μ:M->Nat){c:A1}
  (k:∀x F h,I x F h->Vc V m c F h (fun e F' h'=>match e with|.norm=>¬LT h.length h h'/\∃x',μ x' < μ x/\I x' F' h'|e=>Q e F' h')):∀x F h,I x F h->Vc V m (.loop c) F h Q:=by
 have h3:∀j x F h,μ x<=j->I x F h->Vc V m (.loop c) F h Q:=by
  intro j
  induction j with
  |zero=>
   intro x F h hj hi
   rw[Px]
   refine(k x F h hi).mono fun e F' h' hq=>?_
   cases e with
   |norm=>obtain⟨_,x',h1,_⟩:=hq;omega
   |_=>exact hq
  |succ j ih=>
   intro x F h hj hi
   rw[Px]
   refine(k x F h hi).mono fun e F' h' hq=>?_
   cases e with
   |norm=>
    obtain⟨h0,x',h1,h2⟩:=hq
    unfold gcF gcH
    rw[if_neg h0,if_neg h0]
    exact ih x' _ _ (by omega) h2
   |_=>exact hq
 exact fun x F h hi=>h3 _ x F h (Nat.le_refl _) hi
end
abbrev i7(n:Nat):Nat:=n+1+1+1+1+1+1+1
def JD(mo:List (List (List Int))):Nat->VH
 |0=>[]
 |k+1=>JD mo k++[some (AN BT 1 ((mo.getD k []).map EG)),some ⟨BA,1,0,false,[[.sl (i7 (2 * k)) (mo.getD k []).length 0 (mo.getD k []).length]]⟩]
theorem CW(mo:List (List (List Int))):∀k,(JD mo k).length=2 * k
 |0=>rfl
 |k+1=>by rw[JD,length_append,CW mo k];simp;omega
def EE(mo:List (List (List Int)))(k:Nat):List (List VV):=(List.range k).map fun i=>[.sl (i7 (2 * i)) (mo.getD i []).length 0 (mo.getD i []).length]
theorem Ur(mo:List (List (List Int)))(k:Nat):(EE mo k).length=k:=by simp[EE]
theorem Abl(mo:List (List (List Int)))(k:Nat):EE mo (k+1)=EE mo k++[[.sl (i7 (2 * k)) (mo.getD k []).length 0 (mo.getD k []).length]]:=by
 unfold EE
 rw[range_succ,map_append];rfl
theorem PA(mo:List (List (List Int)))(k:Nat)(Y:VH):(JD mo k++Y)[2 * k]? = Y[0]?/\(JD mo k++Y)[2 * k+1]? = Y[1]?/\(JD mo k++Y)[2 * k+1+1]? = Y[2]?:=by
 have:=CW mo k
 refine⟨?_,?_,?_⟩<;>rw[List.getElem?_append_right (by omega)]<;>congr 1<;>omega
theorem A66(mo:List (List (List Int)))(k:Nat)(Y:VH)(z:Option VO):(JD mo k++Y).set (2 * k) z=JD mo k++Y.set 0 z/\(JD mo k++Y).set (2 * k+1) z=JD mo k++Y.set 1 z:=by
 have:=CW mo k
 refine⟨?_,?_⟩
 .have e:=set_append_right (s:=(JD mo k:List (Option VO))) (t:=Y) (2 * k) z (by omega)
  rw[this,Nat.sub_self]at e
  exact e
 .have e:=set_append_right (s:=(JD mo k:List (Option VO))) (t:=Y) (2 * k+1) z (by omega)
  rw[this,Nat.add_sub_cancel_left]at e
  exact e
theorem Abn(mo:List (List (List Int)))(k:Nat)(a b:Option VO):List.take (2 * k+1) (JD mo k++[a,b])=JD mo k++[a]:=by
 have e:(JD mo k++[a,b])=(JD mo k++[a])++[b]:=by simp
 rw[e]
 have hl:(JD mo k++[a]).length=2 * k+1:=by rw[length_append,CW];rfl
 rw[<- hl]
 exact List.take_left
def cpG(x0 x1:Option VO)(s:A8)(k:Nat):VH:=x0::x1::some ⟨Ah,0,0,false,[[.nl,.nl,.nl]]⟩::some (LC AG 1 (s.has.map eI))::some (LC AG 1 (s.jf.map eI)) ::
 some ⟨Ah,0,0,false,[[.sl 3 (E0 s.has.length) 0 s.has.length,.sl 4 (E0 s.jf.length) 0 s.jf.length,.sl 6 (EE s.mo k).length 0 (EE s.mo k).length]]⟩::some (AN BA 1 (EE s.mo k))::JD s.mo k
section
variable {V:Ai}(C:Am V)
include C
theorem Zj(s:A8)(hs:GI s)(x0 x1:Option VO){Q:VV->VH->Prop}:Lx V Kf [HJ s] [x0,x1] Q ↔
  Q (.ag [.sl 3 (E0 s.has.length) 0 s.has.length,.sl 4 (E0 s.jf.length) 0 s.jf.length,.sl 6 (EE s.mo s.mo.length).length 0 (EE s.mo s.mo.length).length])
   (x0::x1::some ⟨Ah,0,0,false,[[.sl 3 (E0 s.has.length) 0 s.has.length,.sl 4 (E0 s.jf.length) 0 s.jf.length,.sl 6 (EE s.mo s.mo.length).length 0 (EE s.mo s.mo.length).length]]⟩::(cpG x0 x1 s s.mo.length).drop 3):=by
 refine MX ?_
 rw[G4 C.h_z200]
 have h1:=hs.has
 have h2:=hs.jf
 have h3:=hs.mo
 have b1:s.has.length * 8<=A6:=by unfold A6;omega
 have b2:s.jf.length * 8<=A6:=by unfold A6;omega
 simp only[N6,go_sem,b1,b2]
 unfold VL
 rw[A0]
 refine Ma (M:=Nat) (I:=fun k F h=>k<=s.mo.length/\A3.tmp F 1=.fp (Hd s) 0/\A3.tmp F 2=.p 2 0 0 0/\A3.tmp F 3=.p 5 0 0 0/\A3.tmp F 4=.i .i64 k/\h=cpG x0 x1 s k) (μ:=fun k=>s.mo.length-k) ?_ 0 _ _ ⟨zero_le _,?_,?_,?_,?_,?_⟩
 .rintro k F h ⟨h5,p1,p2,p3,p4,rfl⟩
  by_cases c:k<s.mo.length
  .have hm:=hs.mi' k
   have hw:IntKind.i64.wrap ((k:Int)+1)=((k+1:Nat):Int):=by rw[Ax (by omega) (by omega)];omega
   simp only[Vg,go_sem,p1,p2,p3,p4,c,C7 c,A0,cpG]
   have hT:=CW s.mo k
   have hg:=fun Y=>PA s.mo k Y
   have h0:=fun Y z=>A66 s.mo k Y z
   refine Ab (by decide) (s.mo.getD k []).length (by omega) (I:=fun j F h=>A3.tmp F 4=.i .i64 k/\A3.tmp F 1=.fp (Hd s) 0/\A3.tmp F 2=.p 2 0 0 0/\A3.tmp F 3=.p 5 0 0 0/\∃K,K=(s.mo.getD k []).take j/\A3.tmp F 5=.sl (i7 (2 * k)) K.length 0 K.length/\h=cpG x0 x1 s k++[some (AN BT 1 (K.map EG))]) ?_ ?_ ?_ 0 _ _ (zero_le _) ?_ ?_
   .rintro j F h hj q6 ⟨q4,q1,q2,q3,K,hK,q5,rfl⟩
    simp only[go_sem,q6,q4,q1,q2,q3,q5,C7 c]
    exact⟨K,hK,rfl,rfl⟩
   .rintro j F h hj q6 ⟨q4,q1,q2,q3,K,hK,q5,rfl⟩
    have h4:(s.mo.getD k []).take (j+1)=K++[(s.mo.getD k []).getD j []]:=by
     rw[List.take_succ_eq_append_getElem hj,hK,getD_eq_getElem?_getD (l:=s.mo.getD k []),List.getElem?_eq_getElem hj];rfl
    have hc:=hs.mc' k j
    have hl:K.length=j:=by rw[hK,length_take];omega
    have b3:((s.mo.getD k []).getD j []).length * 8<=A6:=by unfold A6;omega
    have b4:(K.length+1) * 24<=A6:=by unfold A6;omega
    simp only[go_sem,q6,q4,q1,q2,q3,q5,C7 c,CT hj,c,hj,b3,b4,cpG,Zy,A0,length_append,length_map,hT,(hg _).1,(hg _).2.1,(hg _).2.2,(h0 _ _).1,(h0 _ _).2]
    exact⟨K++[(s.mo.getD k []).getD j []],h4.symm,by simp,by rw[Abn]⟩
   .rintro F h ⟨q4,q1,q2,q3,K,hK,q5,rfl⟩
    rw[List.take_length]at hK
    subst hK
    have hr:=Ur s.mo k
    have b4:((EE s.mo k).length+1) * 24<=A6:=by unfold A6;omega
    simp only[go_sem,q4,q1,q2,q3,q5,b4,cpG,A8H,length_append,length_map,hT,(hg _).1,(hg _).2.1,(hg _).2.2,(h0 _ _).1,(h0 _ _).2,hw]
    refine⟨?_,k+1,by omega,by omega,rfl,?_⟩
    .rintro(h|h)
     .have:=congrArg (fun o=>o.rows.length) h
      simp only[Tb,length_append]at this
      simp at this
     .rw[List.all_append,and_eq_true]at h
      have:=h.2
      simp[CK,bel]at this
    .rw[Abl,JD,length_append]
     rfl
   .simp only[go_sem]
   .simp only[go_sem,p4,p1,p2,p3,cpG,hT]
    exact⟨[],rfl,rfl,rfl⟩
  .have e:k=s.mo.length:=by omega
   subst e
   simp only[Vg,go_sem,p1,p2,p3,p4,Nat.lt_irrefl,cpG]
 .simp only[go_sem]
 .simp only[go_sem]
 .simp only[go_sem]
 .simp only[go_sem]
 .rfl
end
def moG(x0:Option VO)(s:A8):VH:=x0::some ⟨Ah,0,0,false,[[.nl,.nl,.nl]]⟩ ::
 some ⟨Ah,0,0,false,[[.sl 3 (E0 s.has.length) 0 s.has.length,.sl 4 (E0 s.jf.length) 0 s.jf.length,.sl 6 (EE s.mo s.mo.length).length 0 (EE s.mo s.mo.length).length]]⟩::some (LC AG 1 (s.has.map eI))::some (LC AG 1 (s.jf.map eI)) ::
 some ⟨Ah,0,0,false,[[.sl 3 (E0 s.has.length) 0 s.has.length,.sl 4 (E0 s.jf.length) 0 s.jf.length,.sl 6 (EE s.mo s.mo.length).length 0 (EE s.mo s.mo.length).length]]⟩::some (AN BA 1 (EE s.mo s.mo.length)) ::
 (JD s.mo s.mo.length++[some ⟨Ah,0,0,false,[[.sl 3 (E0 s.has.length) 0 s.has.length,.sl 4 (E0 s.jf.length) 0 s.jf.length,.sl 6 (EE s.mo s.mo.length).length 0 (EE s.mo s.mo.length).length]]⟩])
abbrev moV(s S:A8)(v1 v2:Nat):VV:=.ag [.sl (i7 (2 * s.mo.length)+1) v1 0 S.has.length,.sl (i7 (2 * s.mo.length)+1+1) v2 0 S.jf.length,.sl 6 (EE s.mo s.mo.length).length 0 (EE s.mo s.mo.length).length]
abbrev SC(s S:A8)(v1 v2:Nat):List VV:=[.sl (i7 (2 * s.mo.length)+1) v1 0 S.has.length,.sl (i7 (2 * s.mo.length)+1+1) v2 0 S.jf.length,.sl 6 (EE s.mo s.mo.length).length 0 (EE s.mo s.mo.length).length]
def moE(x0:Option VO)(s S:A8)(v1 v2:Nat):VH:=x0::some ⟨Ah,0,0,false,[SC s S v1 v2]⟩ ::
 some ⟨Ah,0,0,false,[[.sl 3 (E0 s.has.length) 0 s.has.length,.sl 4 (E0 s.jf.length) 0 s.jf.length,.sl 6 (EE s.mo s.mo.length).length 0 (EE s.mo s.mo.length).length]]⟩::some (LC AG 1 (s.has.map eI))::some (LC AG 1 (s.jf.map eI)) ::
 some ⟨Ah,0,0,false,[[.sl 3 (E0 s.has.length) 0 s.has.length,.sl 4 (E0 s.jf.length) 0 s.jf.length,.sl 6 (EE s.mo s.mo.length).length 0 (EE s.mo s.mo.length).length]]⟩::some (AN BA 1 (EE s.mo s.mo.length)) ::
 (JD s.mo s.mo.length++[some ⟨Ah,0,0,false,[SC s S v1 v2]⟩,some ⟨AG,1,v1,false,S.has.map eI⟩,some ⟨AG,1,v2,false,S.jf.map eI⟩])
theorem Ahx(x0:Option VO)(s:A8):(moG x0 s).length=2 * s.mo.length+8:=by
 have hT:=CW s.mo s.mo.length
 simp[moG,hT]
section
variable {V:Ai}(C:Am V)
include C
theorem Zn(t:A2)(ht:A7 t)(s:A8)(hs:GI s){m:Nat}(hm:m<t.nodes.length)(kind w:Int)(hok:Cn t s m kind=true)(x0:Option VO):Lx V GW [vT t,HJ s,.i .i64 m,.i .i64 kind,.i .i64 w] [x0] fun r h'=>∃v1 v2,r=.tu [moV s (Ba s m w) v1 v2,.b true]/\h'=moE x0 s (Ba s m w) v1 v2:=by
 rw[G4 C.h_z149]
 have hy:=fun(Q:VV->Prop)=>BE C t ht s hs (Q:=Q)
 have q4:=hs.has
 have h1:BZ t (m:Int)=true:=C1 hm
 simp only[Cn,and_eq_true,Bool.not_eq_true',toNat_natCast]at hok
 obtain⟨⟨⟨⟨hf,_⟩,h2⟩,h3⟩,h4⟩:=hok
 have w1:=DQ s.has (m:Int)
 have w2:=C0 s.has (t.at m).up
 rw[h3]at w1
 rw[h4]at w2
 have hx:=fun(Q:VV->VH->Prop)=>Zj C s hs x0 (some ⟨Ah,0,0,false,[[.nl,.nl,.nl]]⟩) (Q:=Q)
 have hT:=CW s.mo s.mo.length
 have hr:=Ur s.mo s.mo.length
 have hg:=fun Y=>PA s.mo s.mo.length Y
 have h6:=fun Y z=>A66 s.mo s.mo.length Y z
 have hl:decide (i7 (2 * s.mo.length)<(moG x0 s).length)=true:=decide_eq_true (by rw[Ahx];show 2 * s.mo.length+7<_;omega)
 simp only[Cy,go_sem,hy,hf,At C,h1,A5 hm,h2,Ae C s.has (by omega),w1,w2,hx,cpG,hT,(hg _).1,(hg _).2.1,(hg _).2.2,(h6 _ _).1,(h6 _ _).2]
 unfold VL
 rw[A0]
 have q2:s.jf.length=s.has.length:=by simp only[Bj,and_eq_true,decide_eq_true_eq]at hf;exact hf.1.1.1.1.2
 refine AJ (M:=Nat) (I:=fun i F h=>i<=Bo s.has m/\A3.tmp F 2=.i .i64 m/\A3.tmp F 4=.i .i64 w/\A3.tmp F 6=.fp (Hd s) 0/\A3.tmp F 10=.p 1 0 0 0/\A3.tmp F 12=.p (i7 (2 * s.mo.length)) 0 0 0/\A3.tmp F 13=.i .i64 i/\h=moG x0 s) (μ:=fun i=>s.has.length-i) ?_ 0 _ _ ⟨zero_le _,?_,?_,?_,?_,?_,?_,rfl⟩
 .rintro i F h ⟨hi,p2,p4,p6,ho,hp,hq,rfl⟩
  have hk:=Mt hi
  have q3:=Ee s.has m
  by_cases c:i<s.has.length
  .cases c2:decide (s.has.getD i 0<(m:Int))with
   |true=>
    have hh:=of_decide_eq_true c2
    have q5:=hk.1 ⟨c,hh⟩
    have hw:IntKind.i64.wrap ((i:Int)+1)=((i+1:Nat):Int):=by rw[Ax (by omega) (by omega)];omega
    simp only[ER,go_sem,p2,p4,p6,ho,hp,hq,c,Ak c,c2,A0,hw,hl]
    refine⟨i+1,by omega,by omega,?_⟩
    first|rfl|exact⟨rfl,rfl⟩|exact⟨rfl,rfl,rfl⟩
   |false=>
    have hh:=of_decide_eq_false c2
    have e:i=Bo s.has m:=by
     rcases lt_or_ge i (Bo s.has m)with h|h
     .exact absurd (Mu h) hh
     .omega
    obtain⟨A,hA⟩:∃A,A=s.has.take i:=⟨_,rfl⟩
    obtain⟨B,hB⟩:∃B,B=s.has.drop i:=⟨_,rfl⟩
    obtain⟨A',h0⟩:∃A,A=s.jf.take i:=⟨_,rfl⟩
    obtain⟨B',h5⟩:∃B,B=s.jf.drop i:=⟨_,rfl⟩
    have lA:A.length=i:=by rw[hA,length_take];omega
    have q0:A'.length=i:=by rw[h0,length_take];omega
    have lB:B.length=s.has.length-i:=by rw[hB,length_drop]
    have hn:B'.length=s.jf.length-i:=by rw[h5,length_drop]
    have tB:List.take (s.has.length-i) B=B:=take_of_length_le (by omega)
    have hv:List.take (s.jf.length-i) B'=B':=take_of_length_le (by omega)
    have c1:i<=s.has.length:=by omega
    have he:i<=s.jf.length:=by omega
    have b1:A.length * 8<=A6:=by unfold A6;omega
    have hb:A'.length * 8<=A6:=by unfold A6;omega
    have b2:(A.length+1) * 8<=A6:=by unfold A6;omega
    have hc:(A'.length+1) * 8<=A6:=by unfold A6;omega
    obtain⟨b0,Bs,rfl⟩:∃b0 Bs,B=b0::Bs:=by
     cases B with
     |nil=>simp at lB;omega
     |cons b0 Bs=>exact⟨b0,Bs,rfl⟩
    obtain⟨h9,h7,rfl⟩:∃b0 Bs,B'=b0::Bs:=by
     cases B' with
     |nil=>simp at hn;omega
     |cons b0 Bs=>exact⟨b0,Bs,rfl⟩
    rw[length_cons]at lB hn
    have q1:List.take (s.has.length-i) (eI b0::List.map eI Bs)=eI b0::List.map eI Bs:=take_of_length_le (by simp;omega)
    have hu:List.take (s.jf.length-i) (eI h9::List.map eI h7)=eI h9::List.map eI h7:=take_of_length_le (by simp;omega)
    obtain⟨X,hX⟩:∃X,X=A++[(m:Int)]++b0::Bs:=⟨_,rfl⟩
    obtain⟨X',hj⟩:∃X,X=A'++[w]++h9::h7:=⟨_,rfl⟩
    have jX:List.map eI (A++[(m:Int)])++eI b0::List.map eI Bs=List.map eI X:=by rw[hX,map_append (l₁:=A++[(m:Int)])];rfl
    have hz:List.map eI (A'++[w])++eI h9::List.map eI h7=List.map eI X':=by rw[hj,map_append (l₁:=A'++[w])];rfl
    have lX:A.length+1+(Bs.length+1)=X.length:=by rw[hX];simp;omega
    have ha:A'.length+1+(h7.length+1)=X'.length:=by rw[hj];simp;omega
    have b3:X.length * 8<=A6:=by unfold A6;omega
    have hd:X'.length * 8<=A6:=by unfold A6;omega
    have eX:X=Be s.has (Bo s.has m) m:=by rw[hX,Be,<- e,<- hA,<- hB];simp
    have h8:X'=Be s.jf (Bo s.has m) w:=by rw[hj,Be,<- e,<- h0,<- h5];simp
    simp only[ER,go_sem,p2,p4,p6,ho,hp,hq,c,Ak c,c2,A0,moG,<- hA,<- hB,<- h0,<- h5,q1,hu,c1,he,b1,hb,b2,hc,b3,hd,length_append,length_map,hT,(hg _).1,(hg _).2.1,(hg _).2.2,(h6 _ _).1,(h6 _ _).2,jX,hz,lX,ha]
    exact⟨_,_,by rw[eX,h8];rfl,by rw[eX,h8];rfl⟩
  .have e:i=Bo s.has m:=by omega
   obtain⟨A,hA⟩:∃A,A=s.has.take i:=⟨_,rfl⟩
   obtain⟨B,hB⟩:∃B,B=s.has.drop i:=⟨_,rfl⟩
   obtain⟨A',h0⟩:∃A,A=s.jf.take i:=⟨_,rfl⟩
   obtain⟨B',h5⟩:∃B,B=s.jf.drop i:=⟨_,rfl⟩
   have lA:A.length=i:=by rw[hA,length_take];omega
   have q0:A'.length=i:=by rw[h0,length_take];omega
   have lB:B.length=s.has.length-i:=by rw[hB,length_drop]
   have hn:B'.length=s.jf.length-i:=by rw[h5,length_drop]
   have tB:List.take (s.has.length-i) B=B:=take_of_length_le (by omega)
   have hv:List.take (s.jf.length-i) B'=B':=take_of_length_le (by omega)
   have c1:i<=s.has.length:=by omega
   have he:i<=s.jf.length:=by omega
   have b1:A.length * 8<=A6:=by unfold A6;omega
   have hb:A'.length * 8<=A6:=by unfold A6;omega
   have b2:(A.length+1) * 8<=A6:=by unfold A6;omega
   have hc:(A'.length+1) * 8<=A6:=by unfold A6;omega
   obtain rfl:B=[]:=List.length_eq_zero_iff.1 (by omega)
   obtain rfl:B' = []:=List.length_eq_zero_iff.1 (by omega)
   have b3:(A.length+1+0) * 8<=A6:=by unfold A6;omega
   have hd:(A'.length+1+0) * 8<=A6:=by unfold A6;omega
   simp only[ER,go_sem,p2,p4,p6,ho,hp,hq,c,A0,moG,<- hA,<- hB,<- h0,<- h5,tB,hv,c1,he,b1,hb,b2,hc,b3,hd,length_append,length_map,hT,(hg _).1,(hg _).2.1,(hg _).2.2,(h6 _ _).1,(h6 _ _).2]
   have eX:A++[(m:Int)]=Be s.has (Bo s.has m) m:=by rw[Be,<- e,<- hA,<- hB]
   have h8:A'++[w]=Be s.jf (Bo s.has m) w:=by rw[Be,<- e,<- h0,<- h5]
   have lX:A.length+1=(Be s.has (Bo s.has m) m).length:=by rw[<- eX];simp
   have ha:A'.length+1=(Be s.jf (Bo s.has m) w).length:=by rw[<- h8];simp
   exact⟨_,_,by rw[lX,ha];rfl,by rw[lX,ha,eX,h8];rfl⟩
 .simp only[go_sem]
 .simp only[go_sem]
 .simp only[go_sem]
 .simp only[go_sem]
 .simp only[go_sem]
 .simp only[go_sem]
end
theorem A2x(mo:List (List (List Int))){loc:Nat}:∀{n:Nat},loc<n->∀Y:VH,(JD mo n++Y)[2 * loc]? = some (some (AN BT 1 ((mo.getD loc []).map EG)))
 |0,h,_=>by omega
 |n+1,h,Y=>by
  rw[JD,append_assoc]
  by_cases c:loc=n
  .subst c
   rw[(PA mo loc _).1];rfl
  .exact A2x mo (by omega) _
theorem Us(mo:List (List (List Int))){n loc i:Nat}(hl:loc<n)(hi:i<n)(z:Option VO)(Y:VH):((JD mo n).set (2 * loc) z++Y)[2 * i]? = some (if i=loc then z else some (AN BT 1 ((mo.getD i []).map EG))):=by
 have hT:=CW mo n
 rw[List.getElem?_append_left (by rw[length_set];omega),List.getElem?_set]
 by_cases c:i=loc
 .subst c
  simp;omega
 .rw[if_neg (by omega),if_neg c]
  have:=A2x mo hi []
  rwa [append_nil]at this
theorem Abm(mo:List (List (List Int)))(n loc j:Nat)(z:Option VO)(Y:VH):((JD mo n).set (2 * loc) z++Y)[2 * n+j]? = Y[j]?:=by
 have hT:=CW mo n
 rw[List.getElem?_append_right (by rw[length_set];omega),length_set,hT]
 congr 1;omega
theorem AjK(mo:List (List (List Int)))(n loc j:Nat)(z y:Option VO)(Y:VH):((JD mo n).set (2 * loc) z++Y).set (2 * n+j) y=(JD mo n).set (2 * loc) z++Y.set j y:=by
 have hT:=CW mo n
 have hl:((JD mo n).set (2 * loc) z).length=2 * n:=by rw[length_set];exact hT
 have e:=set_append_right (s:=((JD mo n).set (2 * loc) z:List (Option VO))) (t:=Y) (2 * n+j) y (by omega)
 rw[hl,Nat.add_sub_cancel_left]at e
 exact e
theorem A4Y{α:Type}{g:α->Option (α×List Nat)}{f h:Nat->α}{is:Nat->List Nat}:∀(n:Nat),(∀i,i<n->g (f i)=some (h i,is i))->∃ids,B5 g ((List.range n).map f)=some ((List.range n).map h,ids):=by
 have app:∀(a b:List α) {x y:List α} {i j:List Nat},B5 g a=some (x,i)->B5 g b=some (y,j)->B5 g (a++b)=some (x++y,i++j):=by
  intro a
  induction a with
  |nil=>intro b x y i j h1 h2;simp only[B5,Option.some.injEq,Prod.mk.injEq]at h1;obtain⟨rfl,rfl⟩:=h1;exact h2
  |cons a0 a ih=>
   intro b x y i j h1 h2
   simp only[B5]at h1
   split at h1
   .rename_i y0 i0 ys is e1 e2
    simp only[Option.some.injEq,Prod.mk.injEq]at h1
    obtain⟨rfl,rfl⟩:=h1
    simp only[cons_append,B5,e1,ih b e2 h2,append_assoc]
   .cases h1
 intro n
 induction n with
 |zero=>intro _;exact⟨[],rfl⟩
 |succ n ih=>
  intro hg
  obtain⟨ids,e⟩:=ih fun i hi=>hg i (by omega)
  refine⟨ids++(is n++[]),?_⟩
  rw[range_succ,map_append,map_append]
  refine app _ _ e ?_
  simp only[map_cons,map_nil,B5,hg n (by omega)]
theorem AoD{H:VH}{d:Nat}{l:List (List Int)}{k:Nat}(hk:k<l.length){v:VV}{X:List Int}{ids:List Nat}(hv:frz H (d+2) v=some (.ls (X.map eI),ids)) :
  B5 (fun row=>B5 (frz H (d+2)) row) (List.take l.length ((l.map EG).set k [v]))=some ((l.set k X).map EG,ids):=by
 rw[take_of_length_le (by simp)]
 rw[map_set]
 refine QR (l.map EG) k [v] (EG X) ids ?_ (by simpa using hk) ?_
 .intro a ha
  obtain⟨c,_,rfl⟩:=List.mem_map.1 ha
  simp only[go_sem,P1]
 .simp only[B5,hv,append_nil]
theorem V5{f d:Nat}(hf:f=d+4){mo:List (List (List Int))}{loc:Nat}(hll:loc<mo.length){L:List (List Int)}(hL:mo.getD loc []=L){a:Nat}(ha:a<L.length)(a0 a1 a2 a3 a4 a5 a6:Option VO){Y:VH}{idx v id:Nat}{X:List Int}(hid:id=i7 (2 * mo.length+idx))
  (hY:Y[idx]? = some (some ⟨AG,1,v,false,X.map eI⟩)) :
  ∃ids,B5 (fun row=>B5 (frz (a0::a1::a2::a3::a4::a5::a6::((JD mo mo.length).set (2 * loc) (some ⟨BT,1,L.length,false,(L.map EG).set a [.sl id v 0 X.length]⟩)++Y)) f) row) (EE mo mo.length)=some ((mo.set loc (L.set a X)).map EV,ids):=by
 subst hid
 subst hf
 obtain⟨ids,e⟩:=A4Y (g:=fun row=>B5 (frz (a0::a1::a2::a3::a4::a5::a6::((JD mo mo.length).set (2 * loc) (some ⟨BT,1,L.length,false,(L.map EG).set a [.sl (i7 (2 * mo.length+idx)) v 0 X.length]⟩)++Y)) (d+4)) row)
  (f:=fun i=>[.sl (i7 (2 * i)) (mo.getD i []).length 0 (mo.getD i []).length]) (h:=fun i=>EV ((mo.set loc (L.set a X)).getD i [])) (is:=fun i=>if i=loc then [i7 (2 * i),i7 (2 * mo.length+idx)]else [i7 (2 * i)]) mo.length (fun i hi=>by
   by_cases c:i=loc
   .subst c
    have h1:=fun z=>Us mo hll hi z Y
    have h2:=fun z=>Abm mo mo.length i idx z Y
    rw[hL]
    have h3:(mo.set i (L.set a X)).getD i []=L.set a X:=by rw[getD_eq_getElem?_getD,List.getElem?_set];simp[hll]
    rw[h3]
    simp only[if_true]at h1
    simp only[go_sem,h1,h2,hY,length_map,length_set]
    rw[AoD ha (X:=X) (ids:=[i7 (2 * mo.length+idx)]) (by simp only[go_sem,h2,hY,length_map])]
    rfl
   .have h1:=fun z=>Us mo hll hi z Y
    have h3:(mo.set loc (L.set a X)).getD i []=mo.getD i []:=by rw[getD_eq_getElem?_getD,getD_eq_getElem?_getD,List.getElem?_set_ne (by omega)]
    rw[h3]
    simp only[c,if_false]at h1 ⊢
    simp only[go_sem,h1,length_map])
 refine⟨ids,?_⟩
 rw[show EE mo mo.length=(List.range mo.length).map fun i=>[VV.sl (i7 (2 * i)) (mo.getD i []).length 0 (mo.getD i []).length] from rfl,e]
 congr 2
 apply List.ext_getElem
 .simp
 .intro i h1 h2
  have hi:i<(mo.set loc (L.set a X)).length:=by simpa using h1
  rw[List.getElem_map,List.getElem_map,List.getElem_range,getD_eq_getElem?_getD,List.getElem?_eq_getElem hi];rfl
theorem AjI{mo:List (List (List Int))}{n loc:Nat}(h:loc<n):(EE mo n)[loc]? = some [.sl (i7 (2 * loc)) (mo.getD loc []).length 0 (mo.getD loc []).length]:=by simp[EE,h]
theorem AjJ(mo:List (List (List Int)))(k j:Nat)(Y:VH):(JD mo k++Y)[2 * k+j]? = Y[j]?:=by
 have:=CW mo k
 rw[List.getElem?_append_right (by omega)]
 congr 1;omega
theorem AjL(mo:List (List (List Int)))(k j:Nat)(Y:VH)(z:Option VO):(JD mo k++Y).set (2 * k+j) z=JD mo k++Y.set j z:=by
 have hl:=CW mo k
 have e:=set_append_right (s:=(JD mo k:List (Option VO))) (t:=Y) (2 * k+j) z (by omega)
 rw[hl,Nat.add_sub_cancel_left]at e
 exact e
theorem AfF(mo:List (List (List Int))){n loc:Nat}(h:loc<n)(Y:VH)(z:Option VO):(JD mo n++Y).set (2 * loc) z=(JD mo n).set (2 * loc) z++Y:=by
 have hl:=CW mo n
 exact List.set_append_left (2 * loc) z (by omega)
def Lj(t:A2)(s:A8)(n at_:Int):Option A8:=match D1 t s n 3 (-1)with
 |some s'=>
  let loc:=(t.at n.toNat).loc.toNat
  let L:=s'.mo.getD loc []
  if at_<1\/(L.length:Int)<=at_ then none else
   let c:=L.getD at_.toNat []
   let s'':A8:={ s' with mo:=s'.mo.set loc (L.set at_.toNat (Be c (Bo c n) n)) }
   if Bj t s''=true then some s'' else none
 |none=>none
def joH(s S:A8)(v1 v2:Nat):VH:=moE (some ⟨Ah,0,0,false,[[.nl,.nl,.nl]]⟩) s S v1 v2++[some DT,some DT,some DT,some ⟨Ah,0,0,false,[SC s S v1 v2]⟩]
theorem Agh(s S:A8)(v1 v2:Nat):(joH s S v1 v2).length=2 * s.mo.length+14:=by
 have hT:=CW s.mo s.mo.length
 simp[joH,moE,hT]
theorem Lx.mono{V:Ai}{g:Nat}{args:List VV}{h:VH}{Q Q':VV->VH->Prop}(k:Lx V g args h Q)(i:∀v h',Q v h'->Q' v h'):Lx V g args h Q':=by
 obtain⟨vf,e,hb⟩:=k
 exact⟨vf,e,hb.mono i⟩
theorem A6I{s:A8}(hs:GI s)(hz:s.has.length<1000/\s.jf.length<1000/\∀l∈s.mo,∀c∈l,c.length<1000)(n w:Int)(hj:s.jf.length=s.has.length){loc a:Nat}{L:List (List Int)}(hL:s.mo.getD loc []=L)(hll:loc<s.mo.length){X:List Int}(hX:X.length<=1000) :
  GI ⟨(Ba s n w).has,(Ba s n w).jf,(Ba s n w).mo.set loc (L.set a X)⟩:=by
 have h1:=Ee s.has n
 have hm:=Aa (d:=[]) hll
 rw[hL]at hm
 refine⟨by show(Be _ _ _).length<=1000;rw[DL h1];omega,by show(Be _ _ _).length<=1000;rw[DL (by omega)];omega,by show(s.mo.set _ _).length<=1000;rw[length_set];exact hs.mo,?_,?_⟩
 .intro l hl
  rcases List.mem_or_eq_of_mem_set hl with h|rfl
  .exact hs.mi l h
  .rw[length_set];exact hs.mi L hm
 .intro l hl c hc
  rcases List.mem_or_eq_of_mem_set hl with h|rfl
  .exact hs.mc l h c hc
  .rcases List.mem_or_eq_of_mem_set hc with h|rfl
   .exact hs.mc L hm c h
   .exact hX
section
variable {V:Ai}(C:Am V)
include C
theorem RL(t:A2)(ht:A7 t)(s:A8)(hs:GI s)(n kind w:Int)(h0:Cn t s n kind=false)(x0:Option VO){Q:VV->VH->Prop}:Lx V GW [vT t,HJ s,.i .i64 n,.i .i64 kind,.i .i64 w] [x0] Q↔Q (.tu [.ag [.nl,.nl,.nl],.b false]) [x0,some ⟨Ah,0,0,false,[[.nl,.nl,.nl]]⟩]:=by
 refine MX ?_
 rw[G4 C.h_z149]
 have h5:=fun(Q:VV->Prop)=>BE C t ht s hs (Q:=Q)
 have h6:=hs.has
 cases hf:Bj t s with
 |false=>
  simp only[Cy,go_sem,h5,hf]
 |true=>
 cases h1:BZ t n with
 |false=>
  simp only[Cy,go_sem,h5,hf,At C,h1]
 |true=>
 obtain⟨m,rfl,hm⟩:=A9 h1
 cases h2:decide ((t.at m).kind=kind)with
 |false=>
  simp only[Cy,go_sem,h5,hf,At C,h1,A5 hm,h2]
 |true=>
 have w1:=DQ s.has (m:Int)
 cases h3:AQ s.has (m:Int)with
 |true=>
  rw[h3]at w1
  simp only[Cy,go_sem,h5,hf,At C,h1,A5 hm,h2,Ae C s.has (by omega),w1]
 |false=>
 rw[h3]at w1
 have w2:=C0 s.has (t.at m).up
 cases h4:AQ s.has (t.at m).up with
 |false=>
  rw[h4]at w2
  simp only[Cy,go_sem,h5,hf,At C,h1,A5 hm,h2,Ae C s.has (by omega),w1,w2]
 |true=>
  rw[Cn,hf,h1,toNat_natCast,h2,h3,h4]at h0
  cases h0
theorem Zk(t:A2)(ht:A7 t)(s:A8)(hs:GI s)(hz:s.has.length<1000/\s.jf.length<1000/\∀l∈s.mo,∀c∈l,c.length<1000)(n at_:Int){Q:VV->Prop}:VP V AdM [vT t,HJ s,.i .i64 n,.i .i64 at_] Q↔Q (HZ (Lj t s n at_)):=by
 refine Af ?_
 rw[Ad C.c_z80.1 C.c_z80.2]
 unfold Lj D1
 cases hok:Cn t s n 3 with
 |false=>
  have hm:=fun(x0:Option VO) (Q:VV->VH->Prop)=>RL C t ht s hs n 3 (-1) hok x0 (Q:=Q)
  simp only[HZ,Q2,false_eq_true,if_false]at hm ⊢
  simp only[Acf,go_sem,hm]
  rfl
 |true=>
  have ho:=hok
  simp only[Cn,and_eq_true,decide_eq_true_eq]at ho
  obtain⟨⟨⟨⟨hf,h1⟩,h2⟩,h3⟩,h4⟩:=ho
  obtain⟨m,rfl,hn⟩:=A9 h1
  rw[toNat_natCast]at h2
  have ql:s.mo.length=t.locs.length:=by simp only[Bj,and_eq_true,decide_eq_true_eq]at hf;exact hf.1.1.1.2
  have qb:s.jf.length=s.has.length:=by simp only[Bj,and_eq_true,decide_eq_true_eq]at hf;exact hf.1.1.1.1.2
  obtain⟨l0,l1⟩:=ht.wloc hn (.inr h2)
  obtain⟨loc,h7⟩:=Int.eq_ofNat_of_zero_le l0
  have h5:loc<s.mo.length:=by omega
  rw[if_pos rfl]
  simp only[toNat_natCast,h7]
  simp only[Acf,go_sem]
  refine Lx.mono (Zn C t ht s hs hn 3 (-1) hok _) ?_
  rintro _ _ ⟨v1,v2,rfl,rfl⟩
  have hT:=CW s.mo s.mo.length
  have hr:=Ur s.mo s.mo.length
  have hk:=AjI (mo:=s.mo) h5
  have hh:=fun Y=>A2x s.mo h5 Y
  have hg:=fun Y=>PA s.mo s.mo.length Y
  have hu:loc<(EE s.mo s.mo.length).length:=by omega
  have hq:=Gp (ty:=BA) (e:=1) (rows:=EE s.mo s.mo.length) (by omega)
  have hj:=fun j Y=>AjJ s.mo s.mo.length j Y
  have hc:=fun j Y z=>AjL s.mo s.mo.length j Y z
  have qc:=fun Y z=>AfF s.mo h5 Y z
  obtain⟨L,hL⟩:∃L,L=(Ba s m (-1)).mo.getD loc []:=⟨_,rfl⟩
  have h6:s.mo.getD loc []=L:=hL.symm
  have qe:=hs.mi' loc
  rw[<- hL]
  rw[h6]at hk hh qe
  cases c1:decide (at_<1)with
  |true=>
   rw[if_pos (.inl (of_decide_eq_true c1))]
   simp only[HZ,Q2]
   simp only[go_sem,moE,hT,hk,hh,A5 hn,h7,h5,hj 6,hc 6,c1]
   rfl
  |false=>
  have qg:=of_decide_eq_false c1
  obtain⟨a,rfl⟩:=Int.eq_ofNat_of_zero_le (show 0<=at_ by omega)
  have q6:decide ((L.length:Int)<=(a:Int))=decide (L.length<=a):=decide_eq_decide.2 ⟨fun h=>by omega,fun h=>by omega⟩
  cases c2:decide (L.length<=a)with
  |true=>
   have:=of_decide_eq_true c2
   rw[if_pos (.inr (by omega))]
   simp only[HZ,Q2]
   simp only[go_sem,moE,hT,hk,hh,A5 hn,h7,h5,hu,hq,hj 6,hc 6,c1,q6,c2]
   rfl
  |false=>
  have qh:=of_decide_eq_false c2
  have c3:a<L.length:=by omega
  rw[if_neg (by omega),toNat_natCast]
  obtain⟨c,hp⟩:∃c,c=L.getD a []:=⟨_,rfl⟩
  have hx:L[a]? = some c:=by rw[CT c3,hp]
  have qd:=hs.mc' loc a
  rw[h6,<- hp]at qd
  have qi:c.length<1000:=by
   have hm:=Aa (d:=[]) h5
   rw[h6]at hm
   refine hz.2.2 L hm c ?_
   rw[hp]
   exact Aa c3
  rw[<- hp]
  have hb:=Gp (ty:=BT) (e:=1) (rows:=L.map EG) (by rw[length_map];omega)
  simp only[go_sem,moE,hT,hk,hh,A5 hn,h7,h5,hu,hq,hj 6,hc 6,c1,q6,c2,hx,c3,hb,length_map]
  have qa:AN BT 1 (L.map EG) = ⟨BT,1,L.length,false,L.map EG⟩:=by
   unfold AN
   rw[if_neg (by rw[length_map];omega),length_map]
  have q8:decide (i7 (2 * s.mo.length+6)=2 * s.mo.length+7+1+1+1+1+1+1+1)=false:=decide_eq_false (by show ¬2 * s.mo.length+6+7=2 * s.mo.length+7+7;omega)
  have q7:decide (6=2 * s.mo.length+7+1+1+1+1+1+1+1)=false:=decide_eq_false (by omega)
  have q9:decide (i7 (2 * loc)=2 * s.mo.length+7+1+1+1+1+1+1+1)=false:=decide_eq_false (by show ¬2 * loc+7=2 * s.mo.length+7+7;omega)
  have h0:=fun j z Y=>Abm s.mo s.mo.length loc j z Y
  have hv:=fun j z y Y=>AjK s.mo s.mo.length loc j z y Y
  have hl:∀z Y,((JD s.mo s.mo.length).set (2 * loc) z++Y)[2 * loc]? = some z:=fun z Y=>by rw[Us s.mo h5 h5 z Y,if_pos rfl]
  unfold VL
  rw[A0]
  refine AJ (M:=Nat) (I:=fun i F h=>i<=Bo c m/\A3.tmp F 2=.i .i64 m/\A3.tmp F 3=.i .i64 a/\A3.tmp F 4=.fp (eT t) 0/\A3.tmp F 8=.p 0 0 0 0/\A3.tmp F 10=.p (i7 (2 * s.mo.length+6)) 0 0 0/\A3.tmp F 12=.i .i64 loc/\A3.tmp F 13=lI c/\A3.tmp F 14=.i .i64 i/\h=joH s (Ba s m (-1)) v1 v2) (μ:=fun i=>c.length-i) ?_ 0 _ _ ⟨zero_le _,?_,?_,?_,?_,?_,?_,?_,?_,?_⟩
  .rintro i F h ⟨hi,p2,p3,p4,p8,he,q3,q4,q5,rfl⟩
   have q0:=Mt hi
   have qj:=Ee c m
   have q1:decide (i7 (2 * s.mo.length+6)<(joH s (Ba s m (-1)) v1 v2).length)=true:=decide_eq_true (by rw[Agh];show 2 * s.mo.length+6+7<_;omega)
   by_cases ci:i<c.length
   .cases ci2:decide (c.getD i 0<(m:Int))with
    |true=>
     have h8:=of_decide_eq_true ci2
     have qk:=q0.1 ⟨ci,h8⟩
     have hw:IntKind.i64.wrap ((i:Int)+1)=((i+1:Nat):Int):=by rw[Ax (by omega) (by omega)];omega
     simp only[Vi,go_sem,p2,p3,p4,p8,he,q3,q4,q5,ci,Ak ci,ci2,A0,hw,q1]
     exact⟨i+1,by omega,by omega,rfl,rfl⟩
    |false=>
     have h8:=of_decide_eq_false ci2
     have e:i=Bo c m:=by
      rcases lt_or_ge i (Bo c m)with h|h
      .exact absurd (Mu h) h8
      .omega
     obtain⟨A,hA⟩:∃A,A=c.take i:=⟨_,rfl⟩
     obtain⟨B,hB⟩:∃B,B=c.drop i:=⟨_,rfl⟩
     have lA:A.length=i:=by rw[hA,length_take];omega
     have lB:B.length=c.length-i:=by rw[hB,length_drop]
     have k1:i<=c.length:=by omega
     have b1:A.length * 8<=A6:=by unfold A6;omega
     have b2:(A.length+1) * 8<=A6:=by unfold A6;omega
     obtain⟨b0,Bs,rfl⟩:∃b0 Bs,B=b0::Bs:=by
      cases B with
      |nil=>simp at lB;omega
      |cons b0 Bs=>exact⟨b0,Bs,rfl⟩
     rw[length_cons]at lB
     have qf:List.take (c.length-i) (eI b0::List.map eI Bs)=eI b0::List.map eI Bs:=take_of_length_le (by simp;omega)
     obtain⟨X,hX⟩:∃X,X=A++[(m:Int)]++b0::Bs:=⟨_,rfl⟩
     have jX:List.map eI (A++[(m:Int)])++eI b0::List.map eI Bs=List.map eI X:=by rw[hX,map_append (l₁:=A++[(m:Int)])];rfl
     have lX:A.length+1+(Bs.length+1)=X.length:=by rw[hX];simp;omega
     have b3:X.length * 8<=A6:=by unfold A6;omega
     have eX:X=Be c (Bo c m) m:=by rw[hX,Be,<- e,<- hA,<- hB];simp
     rw[<- eX]
     simp only[Vi,go_sem,p2,p3,p4,p8,he,q3,q4,q5,ci,Ak ci,ci2,A0,joH,moE,cons_append,append_assoc,nil_append,hT,hk,hh,h5,hu,hq,hb,qa,hj 6,hj 7,hc 6,hc 7,qc,h0 1,h0 2,h0 6,h0 7,hv 6,hv 7,hl,q8,q7,q9,k1,<- hA,<- hB,qf,b1,b2,b3,jX,lX,c3,hx,length_append,length_map]
     obtain⟨ids,hy⟩:=V5 (f:=6) (d:=2) rfl h5 h6 c3 (some ⟨Ah,0,0,false,[[.nl,.nl,.nl]]⟩) (some ⟨Ah,0,0,false,[SC s (Ba s m (-1)) v1 v2]⟩) (some ⟨Ah,0,0,false,[[.sl 3 (E0 s.has.length) 0 s.has.length,.sl 4 (E0 s.jf.length) 0 s.jf.length,.sl 6 (EE s.mo s.mo.length).length 0 (EE s.mo s.mo.length).length]]⟩) (some (LC AG 1 (s.has.map eI))) (some (LC AG 1 (s.jf.map eI))) (some ⟨Ah,0,0,false,[[.sl 3 (E0 s.has.length) 0 s.has.length,.sl 4 (E0 s.jf.length) 0 s.jf.length,.sl 6 (EE s.mo s.mo.length).length 0 (EE s.mo s.mo.length).length]]⟩) (some (AN BA 1 (EE s.mo s.mo.length)))
      (Y:=[some ⟨Ah,0,0,false,[SC s (Ba s m (-1)) v1 v2]⟩,some ⟨AG,1,v1,false,(Ba s m (-1)).has.map eI⟩,some ⟨AG,1,v2,false,(Ba s m (-1)).jf.map eI⟩,some DT,some DT,some DT,some ⟨Ah,0,0,false,[SC s (Ba s m (-1)) v1 v2]⟩,some ⟨AG,1,E0 A.length+1+1,false,X.map eI⟩]) (idx:=7) (id:=2 * s.mo.length+7+1+1+1+1+1+1+1) (X:=X) (v:=E0 A.length+1+1) (by show _=2 * s.mo.length+7+7;omega) rfl
     simp only[go_sem,hy]
     have hd:=A6I hs hz (m:Int) (-1) qb h6 h5 (a:=a) (X:=X) (by omega)
     have ha:=fun(Q:VV->Prop)=>BE C t ht _ hd (Q:=Q)
     have eM:(Ba s m (-1)).mo=s.mo:=rfl
     simp only[eM]at ha ⊢
     cases hff:Bj t ⟨(Ba s m (-1)).has,(Ba s m (-1)).jf,s.mo.set loc (L.set a X)⟩with
     |false=>
      rw[if_neg (by decide)]
      simp only[go_sem,p8,he,h0 1,h0 2,h0 6,SC,ha,hff]
      rfl
     |true=>
      rw[if_pos rfl]
      simp only[go_sem,p8,he,h0 1,h0 2,h0 6,SC,ha,hff]
      obtain⟨q2,h9⟩:=V5 (f:=5) (d:=1) rfl h5 h6 c3 (some ⟨Ah,0,0,false,[SC s (Ba s m (-1)) v1 v2]⟩) (some ⟨Ah,0,0,false,[SC s (Ba s m (-1)) v1 v2]⟩) (some ⟨Ah,0,0,false,[[.sl 3 (E0 s.has.length) 0 s.has.length,.sl 4 (E0 s.jf.length) 0 s.jf.length,.sl 6 (EE s.mo s.mo.length).length 0 (EE s.mo s.mo.length).length]]⟩) (some (LC AG 1 (s.has.map eI))) (some (LC AG 1 (s.jf.map eI))) (some ⟨Ah,0,0,false,[[.sl 3 (E0 s.has.length) 0 s.has.length,.sl 4 (E0 s.jf.length) 0 s.jf.length,.sl 6 (EE s.mo s.mo.length).length 0 (EE s.mo s.mo.length).length]]⟩) (some (AN BA 1 (EE s.mo s.mo.length)))
       (Y:=[some ⟨Ah,0,0,false,[SC s (Ba s m (-1)) v1 v2]⟩,some ⟨AG,1,v1,false,(Ba s m (-1)).has.map eI⟩,some ⟨AG,1,v2,false,(Ba s m (-1)).jf.map eI⟩,some DT,some DT,some DT,some ⟨Ah,0,0,false,[SC s (Ba s m (-1)) v1 v2]⟩,some ⟨AG,1,E0 A.length+1+1,false,X.map eI⟩]) (idx:=7) (id:=2 * s.mo.length+7+1+1+1+1+1+1+1) (X:=X) (v:=E0 A.length+1+1) (by show _=2 * s.mo.length+7+7;omega) rfl
      simp only[go_sem,h9]
      rfl
   .have e:i=Bo c m:=by omega
    obtain⟨A,hA⟩:∃A,A=c.take i:=⟨_,rfl⟩
    obtain⟨B,hB⟩:∃B,B=c.drop i:=⟨_,rfl⟩
    have lA:A.length=i:=by rw[hA,length_take];omega
    have lB:B.length=c.length-i:=by rw[hB,length_drop]
    have k1:i<=c.length:=by omega
    have b1:A.length * 8<=A6:=by unfold A6;omega
    have b2:(A.length+1) * 8<=A6:=by unfold A6;omega
    obtain rfl:B=[]:=List.length_eq_zero_iff.1 (by omega)
    have tB:List.take (c.length-i) ([]:List Int)=[]:=List.take_nil
    have b3:(A.length+1+0) * 8<=A6:=by unfold A6;omega
    obtain⟨X,hX⟩:∃X,X=A++[(m:Int)]:=⟨_,rfl⟩
    have lX:A.length+1=X.length:=by rw[hX];simp
    have b4:X.length * 8<=A6:=by rw[<- lX];exact b2
    have b5:(X.length+0) * 8<=A6:=b4
    have eX:X=Be c (Bo c m) m:=by rw[hX,Be,<- e,<- hA,<- hB]
    rw[<- eX]
    simp only[Vi,go_sem,p2,p3,p4,p8,he,q3,q4,q5,ci,A0,joH,moE,cons_append,append_assoc,nil_append,hT,hk,hh,h5,hu,hq,hb,qa,hj 6,hj 7,hc 6,hc 7,qc,h0 1,h0 2,h0 6,h0 7,hv 6,hv 7,hl,q8,q7,q9,k1,<- hA,<- hB,tB,b1,b2,b3,b4,b5,lX,<- hX,c3,hx,length_append,length_map]
    obtain⟨ids,hy⟩:=V5 (f:=6) (d:=2) rfl h5 h6 c3 (some ⟨Ah,0,0,false,[[.nl,.nl,.nl]]⟩) (some ⟨Ah,0,0,false,[SC s (Ba s m (-1)) v1 v2]⟩) (some ⟨Ah,0,0,false,[[.sl 3 (E0 s.has.length) 0 s.has.length,.sl 4 (E0 s.jf.length) 0 s.jf.length,.sl 6 (EE s.mo s.mo.length).length 0 (EE s.mo s.mo.length).length]]⟩) (some (LC AG 1 (s.has.map eI))) (some (LC AG 1 (s.jf.map eI))) (some ⟨Ah,0,0,false,[[.sl 3 (E0 s.has.length) 0 s.has.length,.sl 4 (E0 s.jf.length) 0 s.jf.length,.sl 6 (EE s.mo s.mo.length).length 0 (EE s.mo s.mo.length).length]]⟩) (some (AN BA 1 (EE s.mo s.mo.length)))
     (Y:=[some ⟨Ah,0,0,false,[SC s (Ba s m (-1)) v1 v2]⟩,some ⟨AG,1,v1,false,(Ba s m (-1)).has.map eI⟩,some ⟨AG,1,v2,false,(Ba s m (-1)).jf.map eI⟩,some DT,some DT,some DT,some ⟨Ah,0,0,false,[SC s (Ba s m (-1)) v1 v2]⟩,some ⟨AG,1,E0 A.length+1,false,X.map eI⟩]) (idx:=7) (id:=2 * s.mo.length+7+1+1+1+1+1+1+1) (X:=X) (v:=E0 A.length+1) (by show _=2 * s.mo.length+7+7;omega) rfl
    simp only[go_sem,hy]
    have hd:=A6I hs hz (m:Int) (-1) qb h6 h5 (a:=a) (X:=X) (by omega)
    have ha:=fun(Q:VV->Prop)=>BE C t ht _ hd (Q:=Q)
    have eM:(Ba s m (-1)).mo=s.mo:=rfl
    simp only[eM]at ha ⊢
    cases hff:Bj t ⟨(Ba s m (-1)).has,(Ba s m (-1)).jf,s.mo.set loc (L.set a X)⟩with
    |false=>
     rw[if_neg (by decide)]
     simp only[go_sem,p8,he,h0 1,h0 2,h0 6,SC,ha,hff]
     rfl
    |true=>
     rw[if_pos rfl]
     simp only[go_sem,p8,he,h0 1,h0 2,h0 6,SC,ha,hff]
     obtain⟨q2,h9⟩:=V5 (f:=5) (d:=1) rfl h5 h6 c3 (some ⟨Ah,0,0,false,[SC s (Ba s m (-1)) v1 v2]⟩) (some ⟨Ah,0,0,false,[SC s (Ba s m (-1)) v1 v2]⟩) (some ⟨Ah,0,0,false,[[.sl 3 (E0 s.has.length) 0 s.has.length,.sl 4 (E0 s.jf.length) 0 s.jf.length,.sl 6 (EE s.mo s.mo.length).length 0 (EE s.mo s.mo.length).length]]⟩) (some (LC AG 1 (s.has.map eI))) (some (LC AG 1 (s.jf.map eI))) (some ⟨Ah,0,0,false,[[.sl 3 (E0 s.has.length) 0 s.has.length,.sl 4 (E0 s.jf.length) 0 s.jf.length,.sl 6 (EE s.mo s.mo.length).length 0 (EE s.mo s.mo.length).length]]⟩) (some (AN BA 1 (EE s.mo s.mo.length)))
      (Y:=[some ⟨Ah,0,0,false,[SC s (Ba s m (-1)) v1 v2]⟩,some ⟨AG,1,v1,false,(Ba s m (-1)).has.map eI⟩,some ⟨AG,1,v2,false,(Ba s m (-1)).jf.map eI⟩,some DT,some DT,some DT,some ⟨Ah,0,0,false,[SC s (Ba s m (-1)) v1 v2]⟩,some ⟨AG,1,E0 A.length+1,false,X.map eI⟩]) (idx:=7) (id:=2 * s.mo.length+7+1+1+1+1+1+1+1) (X:=X) (v:=E0 A.length+1) (by show _=2 * s.mo.length+7+7;omega) rfl
     simp only[go_sem,h9]
     rfl
  .simp only[go_sem]
  .simp only[go_sem]
  .simp only[go_sem]
  .simp only[go_sem]
  .simp only[go_sem]
  .simp only[go_sem]
  .simp only[go_sem]
  .simp only[go_sem]
  .simp only[go_sem,joH,moE]
end
theorem G3.kind{t:A2}:∀{n u e:Nat},G3 t n u e->∀m,u<m->m<e->(t.at m).kind=2\/(t.at m).kind=3\/(t.at m).kind=4:=by
 intro n
 induction n with
 |zero=>intro u e h;exact absurd h (by simp[G3])
 |succ n ih=>
  intro u e h m h1 h2
  obtain⟨⟨_,ht,_⟩,h⟩:=h
  rcases h with ⟨_,_,rfl⟩|⟨c,_,_,al,hb⟩|⟨c,_,_,vals,k,loc,mode,_,_,hk0,hke,hloc,hs,_⟩
  .omega
  .by_cases e1:m=u+1
   .subst e1
    simp only[Dc,Bool.or_eq_true,and_eq_true,decide_eq_true_eq]at al
    rcases al with h|h
    .exact .inr (.inr h.1.1.1.1.1)
    .exact .inr (.inl h.1.1.1)
   .exact ih hb m (by omega) h2
  .obtain⟨v,hv,a,b⟩:=Ci (k:=k) (m:=m) vals (by omega) (by omega)
   obtain⟨s1,s2,s3⟩:=hs v hv
   by_cases e1:m=k v
   .subst e1
    simp only[Em,and_eq_true,decide_eq_true_eq]at s2
    exact .inl s2.1.1.1.1
   .exact ih s3 m (by omega) b
theorem A7.kind{t:A2}(h:A7 t){m:Nat}(h2:m<t.nodes.length)(h3:0<=(t.at m).up):(t.at m).kind=2\/(t.at m).kind=3\/(t.at m).kind=4:=by
 by_cases c:m<t.locs.length
 .have:=(h.init m c).up;omega
 .obtain⟨s,h0,he,hs⟩:=h.thr
  obtain⟨v,hv,a,b⟩:=Ci (k:=s) (m:=m) t.regs.length (by omega) (by omega)
  obtain⟨hb,n,hn⟩:=hs v hv
  by_cases e1:m=s v
  .subst e1
   simp only[DO,and_eq_true,decide_eq_true_eq]at hb
   have:=hb.1.1.1.1.1.2
   omega
  .exact hn.kind m (by omega) b
structure Gr(t:A2)(s:A8)(k:Nat):Prop where
 big:Big t s k
 ok:∀x∈s.has,BZ t x=true
theorem Gr.sz{t:A2}(ht:A7 t){s:A8}{k:Nat}(h:Gr t s k)(hk:k<=100):GI s:=h.big.sz ht hk
theorem Gr.sz'{t:A2}{s:A8}{k:Nat}(h:Gr t s k)(hk:k<=100):s.has.length<1000/\s.jf.length<1000/\∀l∈s.mo,∀c∈l,c.length<1000:=
 ⟨by have:=h.big.has;omega,by have:=h.big.jf;omega,fun l hl c hc=>by have:=h.big.mc l hl c hc;omega⟩
theorem Aer{t:A2}(ht:A7 t):Gr t (CH t) 0:=by
 refine⟨Aak ht,fun x hx=>?_⟩
 simp only[CH,DY,mem_map,List.mem_filter,List.mem_range]at hx
 obtain⟨i,⟨hi,_⟩,rfl⟩:=hx
 exact C1 hi
theorem Q0{t:A2}{s s':A8}{k:Nat}(h:Gr t s k){n kind w:Int}(e:D1 t s n kind w=some s'):Gr t s' (k+1):=by
 unfold D1 at e
 split at e
 .rename_i h0
  cases e
  simp only[Cn,Bj,and_eq_true,decide_eq_true_eq]at h0
  refine⟨Adl h.big h0.1.1.1.1.1.1.1.1.2 n w,?_⟩
  intro x hx
  simp only[Ba,Be,List.mem_append,mem_cons]at hx
  rcases hx with hx|rfl|hx
  .exact h.ok x (List.mem_of_mem_take hx)
  .exact h0.1.1.1.2
  .exact h.ok x (List.mem_of_mem_drop hx)
 .cases e
theorem AhQ{t:A2}{s s':A8}{k:Nat}(h:Gr t s k){n w:Int}(e:Lp t s n w=some s'):Gr t s' (k+1):=by
 unfold Lp at e
 split at e
 .rename_i x hx
  split at e
  .cases e;exact Q0 h hx
  .cases e
 .cases e
theorem Aen{t:A2}{s:A8}{k loc:Nat}(h:Gr t s (k+1)){L:List (List Int)}(h0:L≠[])(h1:L.length<=2+k)(h2:∀c∈L,c.length<=2+k):Gr t { s with mo:=s.mo.set loc L } (k+1):=by
 refine⟨⟨h.big.has,h.big.jf,by rw[length_set];exact h.big.mo,?_,?_⟩,h.ok⟩
 .intro l hl
  rcases List.mem_or_eq_of_mem_set hl with hl|rfl
  .exact h.big.mi l hl
  .exact⟨h0,by omega⟩
 .intro l hl c hc
  rcases List.mem_or_eq_of_mem_set hl with hl|rfl
  .exact h.big.mc l hl c hc
  .have:=h2 c hc;omega
theorem Big.row{t:A2}{s:A8}{k:Nat}(h:Big t s k)(loc:Nat):(s.mo.getD loc []).length<=1+k/\∀c∈s.mo.getD loc [],c.length<=1+k:=by
 by_cases hl:loc<s.mo.length
 .have:=Aa (d:=[]) hl
  exact⟨(h.mi _ this).2,fun c hc=>h.mc _ this c hc⟩
 .rw[getD_eq_getElem?_getD,List.getElem?_eq_none (by omega)]
  simp
theorem A7J{t:A2}{s s':A8}{n kind w:Int}(e:D1 t s n kind w=some s'):s'.mo=s.mo:=by
 unfold D1 at e
 split at e
 .cases e;rfl
 .cases e
theorem A27{t:A2}{s s':A8}{k:Nat}(h:Gr t s k){n w:Int}(e:Hc t s n w=some s'):Gr t s' (k+1):=by
 unfold Hc at e
 split at e
 .rename_i x hx
  have hg:=Q0 h hx
  have hm:=A7J hx
  split at e
  .cases e
  .cases e
   have hr:=h.big.row (t.at n.toNat).loc.toNat
   rw[<- hm]at hr
   refine Aen hg (by simp) ?_ ?_
   .simp only[length_append,length_cons,length_take,length_drop];omega
   .intro c hc
    simp only[List.mem_append,mem_cons]at hc
    rcases hc with hc|rfl|hc
    .have:=hr.2 c (List.mem_of_mem_take hc);omega
    .simp;omega
    .have:=hr.2 c (List.mem_of_mem_drop hc);omega
 .cases e
theorem Agi{t:A2}{s s':A8}{k:Nat}(h:Gr t s k){n w:Int}(e:Lj t s n w=some s'):Gr t s' (k+1):=by
 unfold Lj at e
 split at e
 .rename_i x hx
  have hg:=Q0 h hx
  have hm:=A7J hx
  simp only at e
  split at e
  .cases e
  .rename_i hw
   split at e
   .cases e
    have hr:=h.big.row (t.at n.toNat).loc.toNat
    rw[<- hm]at hr
    refine Aen hg ?_ ?_ ?_
    .intro h0
     have:=congrArg List.length h0
     rw[length_set]at this
     simp only[List.length_nil]at this
     omega
    .rw[length_set];omega
    .intro c hc
     rcases List.mem_or_eq_of_mem_set hc with hc|rfl
     .have:=hr.2 c hc;omega
     .have h1:=Ee ((x.mo.getD (t.at n.toNat).loc.toNat []).getD w.toNat []) n
      rw[DL h1]
      have:=hr.2 _ (Aa (d:=[]) (show w.toNat<(x.mo.getD (t.at n.toNat).loc.toNat []).length by omega))
      omega
   .cases e
 .cases e
def EJ(t:A2)(s:A8)(i:Nat):Bool:=decide (0<=(t.at i).up)&&AQ s.has (t.at i).up&&!AQ s.has i
def GQ(t:A2)(s:A8)(k:Nat):List Int:=((List.range k).filter (EJ t s)).map fun(i:Nat)=>(i:Int)
theorem AfZ{t:A2}{s:A8}{k:Nat}(h:EJ t s k=true):GQ t s (k+1)=GQ t s k++[(k:Int)]:=by
 unfold GQ
 rw[range_succ,filter_append,map_append]
 simp only[filter_cons,List.filter_nil,h,if_true,map_cons,map_nil]
theorem V4{t:A2}{s:A8}{k:Nat}(h:EJ t s k=false):GQ t s (k+1)=GQ t s k:=by
 unfold GQ
 rw[range_succ,filter_append,map_append]
 simp[h]
theorem A9L{t:A2}{s:A8}(k:Nat):(GQ t s k).length<=k:=by
 unfold GQ
 rw[length_map]
 exact Nat.le_trans (List.length_filter_le _ _) (by simp)
theorem A9M{t:A2}{s:A8}{k:Nat}{x:Int}(h:x∈GQ t s k):∃m:Nat,x=m/\m<k/\EJ t s m=true:=by
 simp only[GQ,mem_map,List.mem_filter,List.mem_range]at h
 obtain⟨i,⟨hi,h⟩,rfl⟩:=h
 exact⟨i,rfl,hi,h⟩
def K6(t:A2)(n:Nat)(y:Int):Bool:=decide ((t.at y.toNat).kind=3)&&decide ((t.at y.toNat).loc=(t.at n).loc)&&decide ((t.at y.toNat).val=(t.at n).val)
theorem A8N{l:List Int}{k:Nat}(hk:k<l.length):l.take (k+1)=l.take k++[l.getD k 0]:=by
 rw[List.take_succ_eq_append_getElem hk,getD_eq_getElem?_getD,List.getElem?_eq_getElem hk];rfl
def T0(t:A2)(s:A8)(n k:Nat):List Int:=(s.has.take k).filter (K6 t n)
theorem Am5{t:A2}{s:A8}{n k:Nat}(hk:k<s.has.length)(h:K6 t n (s.has.getD k 0)=true):T0 t s n (k+1)=T0 t s n k++[s.has.getD k 0]:=by
 unfold T0
 rw[A8N hk,filter_append]
 simp only[filter_cons,List.filter_nil,h,if_true,false_eq_true,if_false,append_nil]
theorem A5D{t:A2}{s:A8}{n k:Nat}(hk:k<s.has.length)(h:K6 t n (s.has.getD k 0)=false):T0 t s n (k+1)=T0 t s n k:=by
 unfold T0
 rw[A8N hk,filter_append]
 simp only[filter_cons,List.filter_nil,h,if_true,false_eq_true,if_false,append_nil]
theorem Aeo{t:A2}{s:A8}{n:Nat}(k:Nat):(T0 t s n k).length<=s.has.length:=by
 unfold T0
 refine Nat.le_trans (List.length_filter_le _ _) ?_
 rw[length_take];omega
def P6(t:A2)(s:A8)(a b:Nat):Option A8:=
 let l:=GQ t s t.nodes.length
 if l.length=0 then none else
  let n:=l.getD (a % l.length) 0
  let x:=t.at n.toNat
  if x.kind=4 then D1 t s n 4 (-1)else
   if x.kind=2 then
    let w:=T0 t s n.toNat s.has.length
    if w.length=0 then none else Lp t s n (w.getD (b % w.length) 0)
   else
    let k:=(s.mo.getD x.loc.toNat []).length
    let o:=Hc t s n ((1+b / 3 % k:Nat):Int)
    if b % 3=0/\1<k then(match Lj t s n ((1+b / 3 % (k-1):Nat):Int)with
     |some s'=>some s'
     |none=>o)else o
theorem A8l{t:A2}{s s':A8}{k a b:Nat}(h:Gr t s k)(e:P6 t s a b=some s'):Gr t s' (k+1):=by
 unfold P6 at e
 simp only at e
 split at e
 .cases e
 .split at e
  .exact Q0 h e
  .split at e
   .split at e
    .cases e
    .exact AhQ h e
   .split at e
    .split at e
     .rename_i s2 hj
      cases e;exact Agi h hj
     .exact A27 h e
    .exact A27 h e
theorem Gr.mono{t:A2}{s:A8}{k j:Nat}(h:Gr t s k)(hk:k<=j):Gr t s j:=⟨h.big.mono hk,h.ok⟩
def byt(m:List U8)(i:Nat):Nat:=(m.getD i ⟨0⟩).n
theorem AoH{m:List U8}{i:Nat}(h:i<m.length):m[i]? = some ⟨byt m i⟩:=by
 rw[byt,getD_eq_getElem?_getD,List.getElem?_eq_getElem h];rfl
theorem Abd{m:List U8}(hm:∀x∈m,x.n<256)(i:Nat):byt m i<256:=by
 unfold byt
 rw[getD_eq_getElem?_getD]
 cases h:m[i]? with
 |none=>decide
 |some x=>exact hm x (List.mem_of_getElem? h)
def A1W{α:Type}(l:List α)(d:α)(i k:Nat):List α:=(l.set i (l.getD k d)).set k (l.getD i d)
section
variable {V:Ai}(C:Am V){Q:VV->Prop}
include C
theorem A18(t:A2)(ht:A7 t)(s:A8)(hs:GI s):VP V AdL [vT t,HJ s] Q↔Q (lI (GQ t s t.nodes.length)):=by
 refine Af ?_
 rw[Ad C.c_z77.1 C.c_z77.2]
 have h1:=ht.n64
 have h2:=hs.has
 simp only[AiH,go_sem]
 refine Ab (by decide) t.nodes.length (by omega) (I:=fun k F h=>A3.tmp F 2=.fp (eT t) 0/\A3.tmp F 3=.fp (Hd s) 0/\∃L,L=GQ t s k/\A3.tmp F 5=.sl 0 L.length 0 L.length/\h=[some (AN AG 1 (L.map eI))]) ?_ ?_ ?_ 0 _ _ (zero_le _) ?_ ?_
 .rintro k F h hk p6 ⟨p2,p3,L,hL,p5,rfl⟩
  simp only[go_sem,p2,p3,p5,p6]
  exact⟨L,hL,rfl,rfl⟩
 .rintro k F h hk p6 ⟨p2,p3,L,hL,p5,rfl⟩
  have h0:=A9L (t:=t) (s:=s) k
  have w1:=DQ s.has (t.at k).up
  have w2:=C0 s.has (k:Int)
  have b1:(L.length+1) * 8<=A6:=by rw[<- hL]at h0;unfold A6;omega
  cases c1:decide (0<=(t.at k).up)with
  |false=>
   have e:EJ t s k=false:=by simp[EJ,c1]
   simp only[go_sem,p2,p3,p5,p6,hk,A5 hk,c1,A0]
   exact⟨L,by rw[V4 e];exact hL,rfl,rfl⟩
  |true=>
  cases c2:AQ s.has (t.at k).up with
  |false=>
   rw[c2]at w1
   have e:EJ t s k=false:=by simp[EJ,c2]
   simp only[go_sem,p2,p3,p5,p6,hk,A5 hk,c1,Ae C s.has (by omega),w1,A0]
   exact⟨L,by rw[V4 e];exact hL,rfl,rfl⟩
  |true=>
  rw[c2]at w1
  cases c3:AQ s.has (k:Int)with
  |true=>
   rw[c3]at w2
   have e:EJ t s k=false:=by simp[EJ,c3]
   simp only[go_sem,p2,p3,p5,p6,hk,A5 hk,c1,Ae C s.has (by omega),w1,w2,A0]
   exact⟨L,by rw[V4 e];exact hL,rfl,rfl⟩
  |false=>
   rw[c3]at w2
   have e:EJ t s k=true:=by simp only[EJ,c1,c2,c3];rfl
   simp only[go_sem,p2,p3,p5,p6,hk,A5 hk,c1,Ae C s.has (by omega),w1,w2,A0,b1,CG,length_append,length_map]
   exact⟨L++[(k:Int)],by rw[AfZ e,hL],by simp,rfl⟩
 .rintro F h ⟨p2,p3,L,hL,p5,rfl⟩
  subst hL
  simp only[go_sem,p2,p3,p5,length_map]
 .simp only[go_sem]
 .simp only[go_sem]
  exact⟨[],rfl,rfl,rfl⟩
end
end Go.AM
