/-
  Own work, part of the proof of these laws: what functions compute.
-/
import Derived.Test.YtpnaenhghnkggaaGreatDoorKH
set_option maxRecDepth 10000
set_option maxHeartbeats 64000000
set_option linter.unusedVariables false
set_option linter.unusedSimpArgs false
set_option linter.unusedSectionVars false
set_option linter.unnecessarySimpa false
open Bool (and_eq_true)
open List (length_map length_append length_take length_set length_cons take_of_length_le map_append length_drop mem_cons nodup_nil)
namespace Go.AM
open Go Go.Proofs
abbrev agS (s:A8) (b:Nat):VV:=.ag [.sl b 0 0 s.has.length,.sl (b+1) 0 0 s.jf.length,.sl (b+1+1) 0 0 s.mo.length]
abbrev obS (s:A8):VH:=[some ⟨Bg,1,0,false,s.has.map eI⟩,some ⟨Bg,1,0,false,s.jf.map eI⟩,some (J4 Dg 1 (s.mo.map ES))]
theorem Yd {ty e:Nat} {rows:List (List VV)}:({ ty:=(J4 ty e rows).ty,esz:=(J4 ty e rows).esz,ver:=0,nl:=(J4 ty e rows).nl,rows:=rows }:VO)=J4 ty e rows:=by
 unfold J4
 split
 .rename_i h;rw [List.length_eq_zero_iff.1 h];rfl
 .rfl
theorem Ze {α:Type} {g:α->Option (α×List Nat)}:∀ (l:List α) (k:Nat) (x y:α) (ids:List Nat),(∀ a∈l,g a=some (a,[]))->k < l.length->g x=some (y,ids)->Bk g (l.set k x)=some (l.set k y,ids)
 | [],k,x,y,ids,_,hk,_=>by simp at hk
 | a::l,0,x,y,ids,h,_,hx=>by
  have hl:Bk g l=some (l,[]):=by
   have:∀ (l:List α),(∀ a∈l,g a=some (a,[]))->Bk g l=some (l,[]):=by
    intro l
    induction l with
    | nil=>intro _;rfl
    | cons b l ih=>intro h;simp only [Bk,h b (by simp),ih fun a ha=>h a (by simp [ha]),List.nil_append]
   exact this l fun a ha=>h a (by simp [ha])
  simp only [List.set_cons_zero,Bk,hx,hl,List.append_nil]
 | a::l,k+1,x,y,ids,h,hk,hx=>by
  have:=Ze l k x y ids (fun a ha=>h a (by simp [ha])) (by simpa using hk) hx
  simp only [List.set_cons_succ,Bk,h a (by simp),this,List.nil_append]
theorem A9e {H:VH} {l:List (List (List Int))} {k:Nat} (hk:k < l.length) {v:VV} {X:List (List Int)} {ids:List Nat} (hv:frz H 5 v=some (.ls (X.map M5),ids)) :
  Bk (fun row=>Bk (frz H 5) row) (List.take l.length ((l.map ES).set k [v]))=some ((l.set k X).map ES,ids):=by
 rw [take_of_length_le (by simp)]
 rw [List.map_set]
 refine Ze (l.map ES) k [v] (ES X) ids ?_ (by simpa using hk) ?_
 .intro a ha
  obtain ⟨c,_,rfl⟩:=List.mem_map.1 ha
  simp only [go_sem,Zd,↓reduceIte]
 .simp only [Bk,hv,List.append_nil]
section
variable {V:Ae} (C:Ai V)
include C
theorem Ql (t:A1) (ht:A5 t) (s:A8) (hs:KZ s) (n kind w:Int) (h0:Cz t s n kind=false) (b:Nat) {Q:VV->VH->Prop}:VP1 V HL [vT t,LX s,.i .i64 n,.i .i64 kind,.i .i64 w] b Q↔Q (.tu [LX noS,.b false]) []:=by
 refine M0 ?_
 rw [M1 C.c_z149.2]
 have h5:=fun (Q:VV->Prop)=>EX C t ht s hs (Q:=Q)
 have e0:(VV.tu [LX noS,.b false]) = .tu [.ag [.ls [],.ls [],.ls []],.b false]:=rfl
 have h6:=hs.has
 rw [e0]
 cases hf:BJ t s with
 | false =>
  simp only [Dn,go_sem,↓reduceIte,h5,hf,Bo,Bo.takeL]
  exact nodup_nil
 | true =>
 cases h1:BF t n with
 | false =>
  simp only [Dn,go_sem,↓reduceIte,h5,hf,AC C,h1,Bo,Bo.takeL]
  exact nodup_nil
 | true =>
 obtain ⟨m,rfl,hm⟩:=Aa h1
 cases h2:decide ((t.at m).kind=kind) with
 | false =>
  simp only [Dn,go_sem,↓reduceIte,h5,hf,AC C,h1,A6 hm,h2,Bo,Bo.takeL]
  exact nodup_nil
 | true =>
 have w1:=Kb s.has (m:Int)
 cases h3:AZ s.has (m:Int) with
 | true =>
  rw [h3] at w1
  simp only [Dn,go_sem,↓reduceIte,h5,hf,AC C,h1,A6 hm,h2,AA C s.has (by omega),w1,Bo,Bo.takeL]
  exact nodup_nil
 | false =>
 rw [h3] at w1
 have w2:=CZ s.has (t.at m).up
 cases h4:AZ s.has (t.at m).up with
 | false =>
  rw [h4] at w2
  simp only [Dn,go_sem,↓reduceIte,h5,hf,AC C,h1,A6 hm,h2,AA C s.has (by omega),w1,w2,Bo,Bo.takeL]
  exact nodup_nil
 | true =>
  rw [Cz,hf,h1,Int.toNat_natCast,h2,h3,h4] at h0
  cases h0
theorem Ri (t:A1) (ht:A5 t) (s:A8) (hs:KZ s) {m:Nat} (hm:m < t.nodes.length) (kind w:Int) (hok:Cz t s m kind=true) (b:Nat) {Q:VV->VH->Prop}:VP1 V HL [vT t,LX s,.i .i64 m,.i .i64 kind,.i .i64 w] b Q↔Q (.tu [agS (C2 s m w) b,.b true]) (obS (C2 s m w)):=by
 refine M0 ?_
 rw [M1 C.c_z149.2]
 have hr:=fun (Q:VV->Prop)=>EX C t ht s hs (Q:=Q)
 have q0:=hs.has
 have h1:BF t (m:Int)=true:=BT hm
 simp only [Cz,and_eq_true,Bool.not_eq_true',Int.toNat_natCast] at hok
 obtain ⟨⟨⟨⟨hf,_⟩,h2⟩,h3⟩,h4⟩:=hok
 have w1:=Kb s.has (m:Int)
 have w2:=CZ s.has (t.at m).up
 rw [h3] at w1
 rw [h4] at w2
 have hq:=fun (b:Nat) (Q:VV->VH->Prop)=>Kr C s hs b (Q:=Q)
 simp only [Dn,go_sem,↓reduceIte,hr,hf,AC C,h1,A6 hm,h2,AA C s.has (by omega),w1,w2,hq]
 unfold VL
 rw [A0]
 have hy:s.jf.length=s.has.length:=by simp only [BJ,and_eq_true,decide_eq_true_eq] at hf;exact hf.1.1.1.1.2
 refine AU (M:=Nat) (I:=fun i F h=>i<=Bn s.has m/\A2.tmp F 2 = .i .i64 m/\A2.tmp F 4 = .i .i64 w/\A2.tmp F 6 = .fp (XV s) 0/\A2.tmp F 10 = .p 0 0 0 0/\A2.tmp F 12 = .p 4 0 0 0/\A2.tmp F 13 = .i .i64 i/\h=moH s) (μ:=fun i=>s.has.length - i) ?_ 0 _ _ ⟨Nat.zero_le _,?_,?_,?_,?_,?_,?_,rfl⟩
 .rintro i F h ⟨hi,p2,p4,p6,hk,hl,hn,rfl⟩
  have hg:=YQ hi
  have hz:=Du s.has m
  by_cases c:i < s.has.length
  .cases c2:decide (s.has.getD i 0 < (m:Int)) with
   | true =>
    have hd:=of_decide_eq_true c2
    have q1:=hg.1 ⟨c,hd⟩
    have hw:IntKind.i64.wrap ((i:Int)+1)=((i+1:Nat):Int):=by rw [AR (by omega) (by omega)];omega
    simp only [HI,go_sem,↓reduceIte,p2,p4,p6,hk,hl,hn,c,Ar c,c2,A0,hw]
    exact ⟨i+1,by omega,by omega,rfl,rfl,rfl⟩
   | false =>
    have hd:=of_decide_eq_false c2
    have e:i=Bn s.has m:=by
     rcases Nat.lt_or_ge i (Bn s.has m) with h | h
     .exact absurd (Th h) hd
     .omega
    obtain ⟨A,hA⟩:∃ A,A=s.has.take i:=⟨_,rfl⟩
    obtain ⟨B,hB⟩:∃ B,B=s.has.drop i:=⟨_,rfl⟩
    obtain ⟨A',h0⟩:∃ A,A=s.jf.take i:=⟨_,rfl⟩
    obtain ⟨B',h5⟩:∃ B,B=s.jf.drop i:=⟨_,rfl⟩
    have lA:A.length=i:=by rw [hA,length_take];omega
    have hv:A'.length=i:=by rw [h0,length_take];omega
    have lB:B.length=s.has.length - i:=by rw [hB,length_drop]
    have hh:B'.length=s.jf.length - i:=by rw [h5,length_drop]
    have tB:List.take (s.has.length - i) B=B:=take_of_length_le (by omega)
    have hp:List.take (s.jf.length - i) B' = B':=take_of_length_le (by omega)
    have c1:i<=s.has.length:=by omega
    have hc:i<=s.jf.length:=by omega
    have b1:A.length * 8<=A9:=by unfold A9;omega
    have h9:A'.length * 8<=A9:=by unfold A9;omega
    have b2:(A.length+1) * 8<=A9:=by unfold A9;omega
    have ha:(A'.length+1) * 8<=A9:=by unfold A9;omega
    obtain ⟨b0,Bs,rfl⟩:∃ b0 Bs,B=b0::Bs:=by
     cases B with
     | nil=>simp at lB;omega
     | cons b0 Bs=>exact ⟨b0,Bs,rfl⟩
    obtain ⟨h8,h6,rfl⟩:∃ b0 Bs,B' = b0::Bs:=by
     cases B' with
     | nil=>simp at hh;omega
     | cons b0 Bs=>exact ⟨b0,Bs,rfl⟩
    rw [length_cons] at lB hh
    have hx:List.take (s.has.length - i) (eI b0::List.map eI Bs)=eI b0::List.map eI Bs:=take_of_length_le (by simp;omega)
    have ho:List.take (s.jf.length - i) (eI h8::List.map eI h6)=eI h8::List.map eI h6:=take_of_length_le (by simp;omega)
    obtain ⟨X,hX⟩:∃ X,X=A++[(m:Int)]++b0::Bs:=⟨_,rfl⟩
    obtain ⟨X',he⟩:∃ X,X=A'++[w]++h8::h6:=⟨_,rfl⟩
    have jX:List.map eI (A++[(m:Int)])++eI b0::List.map eI Bs=List.map eI X:=by rw [hX,map_append (l₁:=A++[(m:Int)])];rfl
    have hu:List.map eI (A'++[w])++eI h8::List.map eI h6 = List.map eI X':=by rw [he,map_append (l₁:=A'++[w])];rfl
    have lX:A.length+1+(Bs.length+1)=X.length:=by rw [hX];simp;omega
    have hj:A'.length+1+(h6.length+1)=X'.length:=by rw [he];simp;omega
    have b3:X.length * 8<=A9:=by unfold A9;omega
    have hb:X'.length * 8<=A9:=by unfold A9;omega
    have eX:X=B9 s.has (Bn s.has m) m:=by rw [hX,B9,<- e,<- hA,<- hB];simp
    have h7:X' = B9 s.jf (Bn s.has m) w:=by rw [he,B9,<- e,<- h0,<- h5];simp
    simp only [HI,go_sem,↓reduceIte,p2,p4,p6,hk,hl,hn,c,Ar c,c2,A0,moH,<- hA,<- hB,<- h0,<- h5,hx,ho,c1,hc,b1,h9,b2,ha,b3,hb,length_append,length_map,Lb,JO,La,Bo,Bo.takeL,jX,hu,lX,hj]
    exact ⟨by decide,by rw [eX,h7];rfl,by rw [Yd,eX,h7];rfl⟩
  .have e:i=Bn s.has m:=by omega
   obtain ⟨A,hA⟩:∃ A,A=s.has.take i:=⟨_,rfl⟩
   obtain ⟨B,hB⟩:∃ B,B=s.has.drop i:=⟨_,rfl⟩
   obtain ⟨A',h0⟩:∃ A,A=s.jf.take i:=⟨_,rfl⟩
   obtain ⟨B',h5⟩:∃ B,B=s.jf.drop i:=⟨_,rfl⟩
   have lA:A.length=i:=by rw [hA,length_take];omega
   have hv:A'.length=i:=by rw [h0,length_take];omega
   have lB:B.length=s.has.length - i:=by rw [hB,length_drop]
   have hh:B'.length=s.jf.length - i:=by rw [h5,length_drop]
   have tB:List.take (s.has.length - i) B=B:=take_of_length_le (by omega)
   have hp:List.take (s.jf.length - i) B' = B':=take_of_length_le (by omega)
   have c1:i<=s.has.length:=by omega
   have hc:i<=s.jf.length:=by omega
   have b1:A.length * 8<=A9:=by unfold A9;omega
   have h9:A'.length * 8<=A9:=by unfold A9;omega
   have b2:(A.length+1) * 8<=A9:=by unfold A9;omega
   have ha:(A'.length+1) * 8<=A9:=by unfold A9;omega
   obtain rfl:B=[]:=List.length_eq_zero_iff.1 (by omega)
   obtain rfl:B' = []:=List.length_eq_zero_iff.1 (by omega)
   have b3:(A.length+1+0) * 8<=A9:=by unfold A9;omega
   have hb:(A'.length+1+0) * 8<=A9:=by unfold A9;omega
   simp only [HI,go_sem,↓reduceIte,p2,p4,p6,hk,hl,hn,c,A0,moH,<- hA,<- hB,<- h0,<- h5,tB,hp,c1,hc,b1,h9,b2,ha,b3,hb,length_append,length_map,Lb,JO,La,Bo,Bo.takeL]
   have eX:A++[(m:Int)]=B9 s.has (Bn s.has m) m:=by rw [B9,<- e,<- hA,<- hB]
   have h7:A'++[w]=B9 s.jf (Bn s.has m) w:=by rw [B9,<- e,<- h0,<- h5]
   have lX:A.length+1=(B9 s.has (Bn s.has m) m).length:=by rw [<- eX];simp
   have hj:A'.length+1=(B9 s.jf (Bn s.has m) w).length:=by rw [<- h7];simp
   exact ⟨by decide,by rw [lX,hj];rfl,by rw [Yd,eX,h7];rfl⟩
 .simp only [go_sem,↓reduceIte]
 .simp only [go_sem,↓reduceIte]
 .simp only [go_sem,↓reduceIte]
 .simp only [go_sem,↓reduceIte]
 .simp only [go_sem,↓reduceIte]
 .simp only [go_sem,↓reduceIte]
theorem ZF (t:A1) (ht:A5 t) (s:A8) (hs:KZ s) (n:Int) {Q:VV->Prop}:VP V A5s [vT t,LX s,.i .i64 n] Q↔Q (LM (CL t s n 4 (-1))):=by
 refine Ad ?_
 rw [Ab C.c_z78.1 C.c_z78.2]
 have hm:=fun (Q:VV->Prop)=>LG C t ht s hs n 4 (-1) (Q:=Q)
 cases h:CL t s n 4 (-1) with
 | none =>
  rw [h] at hm
  simp only [LM,noS] at hm ⊢
  simp only [A3R,go_sem,↓reduceIte,hm]
  rfl
 | some s' =>
  rw [h] at hm
  simp only [LM] at hm ⊢
  simp only [A3R,go_sem,↓reduceIte,hm]
def J1 (t:A1) (s:A8) (n w:Int):Option A8:=match CL t s n 2 w with
 | some s'=>if BJ t s' = true then some s' else none
 | none=>none
theorem Xy (t:A1) (ht:A5 t) (s:A8) (hs:KZ s) (hz:s.has.length < 1000/\s.jf.length < 1000) (n w:Int) {Q:VV->Prop}:VP V A5t [vT t,LX s,.i .i64 n,.i .i64 w] Q↔Q (LM (J1 t s n w)):=by
 refine Ad ?_
 rw [Ab C.c_z79.1 C.c_z79.2]
 have hm:=fun (Q:VV->Prop)=>LG C t ht s hs n 2 w (Q:=Q)
 unfold J1
 cases h:CL t s n 2 w with
 | none =>
  rw [h] at hm
  simp only [LM,noS] at hm ⊢
  simp only [YG,go_sem,↓reduceIte,hm]
  rfl
 | some s' =>
  rw [h] at hm
  have h2:KZ s':=by
   rw [CL] at h
   split at h
   .rename_i h0
    cases h
    have h1:=Du s.has n
    have hj:s.jf.length=s.has.length:=by
     simp only [Cz,BJ,and_eq_true,decide_eq_true_eq] at h0
     exact h0.1.1.1.1.1.1.1.1.2
    exact ⟨by show (B9 _ _ _).length<=1000;rw [CK h1];omega,by show (B9 _ _ _).length<=1000;rw [CK (by omega)];omega,hs.mo,hs.mi,hs.mc⟩
   .cases h
  have hf:=fun (Q:VV->Prop)=>EX C t ht s' h2 (Q:=Q)
  cases hff:BJ t s' with
  | false =>
   simp only [LM,noS,hff,Bool.false_eq_true,if_false] at hm ⊢
   simp only [YG,go_sem,↓reduceIte,hm,hf,hff]
   rfl
  | true =>
   simp only [LM,hff,if_true] at hm ⊢
   simp only [YG,go_sem,↓reduceIte,hm,hf,hff]
def E0 (t:A1) (s:A8) (n at_:Int):Option A8:=match CL t s n 3 (-1) with
 | some s'=>if at_ < 1\/((s'.mo.getD (t.at n.toNat).loc.toNat []).length:Int) < at_ then none else
   some { s' with mo:=s'.mo.set (t.at n.toNat).loc.toNat ((s'.mo.getD (t.at n.toNat).loc.toNat []).take at_.toNat++[n]::(s'.mo.getD (t.at n.toNat).loc.toNat []).drop at_.toNat) }
 | none=>none
theorem Rg (t:A1) (ht:A5 t) (s:A8) (hs:KZ s) (n at_:Int) {Q:VV->Prop}:VP V A5u [vT t,LX s,.i .i64 n,.i .i64 at_] Q↔Q (LM (E0 t s n at_)):=by
 refine Ad ?_
 rw [Ab C.c_z81.1 C.c_z81.2]
 unfold E0 CL
 cases hok:Cz t s n 3 with
 | false =>
  have hm:=fun (b:Nat) (Q:VV->VH->Prop)=>Ql C t ht s hs n 3 (-1) hok b (Q:=Q)
  simp only [LM,noS,Bool.false_eq_true,if_false] at hm ⊢
  simp only [Pp,go_sem,↓reduceIte,hm]
  rfl
 | true =>
  have h7:=hok
  simp only [Cz,and_eq_true,decide_eq_true_eq] at h7
  obtain ⟨⟨⟨⟨hf,h1⟩,h2⟩,h3⟩,h4⟩:=h7
  obtain ⟨m,rfl,h6⟩:=Aa h1
  rw [Int.toNat_natCast] at h2
  have hm:=fun (b:Nat) (Q:VV->VH->Prop)=>Ri C t ht s hs h6 3 (-1) hok b (Q:=Q)
  have hg:s.mo.length=t.locs.length:=by simp only [BJ,and_eq_true,decide_eq_true_eq] at hf;exact hf.1.1.1.2
  obtain ⟨l0,l1⟩:=ht.wloc h6 (.inr h2)
  obtain ⟨loc,h5⟩:=Int.eq_ofNat_of_zero_le l0
  have h9:loc < s.mo.length:=by omega
  rw [if_pos rfl]
  simp only [Int.toNat_natCast,h5]
  have h0:loc < (C2 s m (-1)).mo.length:=h9
  have hz:J4 Dg 1 (List.map ES (C2 s m (-1)).mo) = ⟨Dg,1,0,false,List.map ES (C2 s m (-1)).mo⟩:=by
   unfold J4
   rw [if_neg (by rw [length_map];omega)]
  have BW:=Cx h0
  have ha:=hs.mi' loc
  obtain ⟨L,hL⟩:∃ L,L=(C2 s m (-1)).mo.getD loc []:=⟨_,rfl⟩
  rw [<- hL] at BW
  have he:L.length<=1000:=by rw [hL];exact ha
  rw [<- hL]
  cases c1:decide (at_ < 1) with
  | true =>
   rw [if_pos (.inl (of_decide_eq_true c1))]
   simp only [LM,noS]
   simp only [Pp,go_sem,↓reduceIte,hm,A6 h6,h5,hz,BW,h0,c1]
   rfl
  | false =>
  have hc:=of_decide_eq_false c1
  obtain ⟨a,rfl⟩:=Int.eq_ofNat_of_zero_le (show 0<=at_ by omega)
  have h8:decide ((L.length:Int) < (a:Int))=decide (L.length < a):=decide_eq_decide.2 ⟨fun h=>by omega,fun h=>by omega⟩
  cases c2:decide (L.length < a) with
  | true =>
   have:=of_decide_eq_true c2
   rw [if_pos (.inr (by omega))]
   simp only [LM,noS]
   simp only [Pp,go_sem,↓reduceIte,hm,A6 h6,h5,hz,BW,h0,c1,h8,c2]
   rfl
  | false =>
  have hd:=of_decide_eq_false c2
  rw [if_neg (by omega),Int.toNat_natCast]
  have c3:a<=L.length:=by omega
  obtain ⟨A,hA⟩:∃ A,A=L.take a:=⟨_,rfl⟩
  obtain ⟨B,hB⟩:∃ B,B=L.drop a:=⟨_,rfl⟩
  have lA:A.length=a:=by rw [hA,length_take];omega
  have lB:B.length=L.length - a:=by rw [hB,length_drop]
  have b1:A.length * 24<=A9:=by unfold A9;omega
  have b2:(A.length+1) * 24<=A9:=by unfold A9;omega
  have jA:List.map M5 A++[[VV.ls [[VV.i .i64 (m:Int)]]]]=List.map M5 (A++[[(m:Int)]]):=by rw [map_append];rfl
  rw [<- hA,<- hB]
  cases B with
  | nil =>
   have b3:(A.length+1+0) * 24<=A9:=by unfold A9;omega
   have tB:List.take (L.length - a) ([]:List (List Int))=[]:=List.take_nil
   simp only [Pp,go_sem,↓reduceIte,hm,A6 h6,h5,hz,BW,h0,c1,h8,c2,c3,<- hA,<- hB,tB,b1,b2,b3,jA,length_append,length_map]
   rw [A9e h0 (X:=A++[[(m:Int)]]) (ids:=[8]) (by simp only [go_sem,↓reduceIte,length_append,length_map])]
   simp only [go_sem,↓reduceIte,length_set,length_map]
   rfl
  | cons b0 Bs =>
   rw [length_cons] at lB
   obtain ⟨X,hX⟩:∃ X,X=A++[[(m:Int)]]++b0::Bs:=⟨_,rfl⟩
   have hb:List.take (L.length - a) (M5 b0::List.map M5 Bs)=M5 b0::List.map M5 Bs:=take_of_length_le (by simp;omega)
   have jX:List.map M5 (A++[[(m:Int)]])++M5 b0::List.map M5 Bs=List.map M5 X:=by rw [hX,map_append (l₁:=A++[[(m:Int)]])];rfl
   have lX:A.length+1+(Bs.length+1)=X.length:=by rw [hX];simp;omega
   have b3:X.length * 24<=A9:=by unfold A9;omega
   simp only [Pp,go_sem,↓reduceIte,hm,A6 h6,h5,hz,BW,h0,c1,h8,c2,c3,<- hA,<- hB,hb,b1,b2,b3,jA,jX,lX,length_append,length_map]
   rw [A9e h0 (X:=X) (ids:=[8]) (by simp only [go_sem,↓reduceIte])]
   simp only [go_sem,↓reduceIte,length_set,length_map]
   have eX:X=A++[(m:Int)]::b0::Bs:=by rw [hX];simp
   rw [eX];rfl
end
theorem LW.mono {V:Ae} {g:Nat} {args:List VV} {h:VH} {Q Q':VV->VH->Prop} (k:LW V g args h Q) (i:∀ v h',Q v h'->Q' v h'):LW V g args h Q':=by
 obtain ⟨vf,e,hb⟩:=k
 exact ⟨vf,e,hb.mono i⟩
theorem G0.kind {t:A1}:∀ {n u e:Nat},G0 t n u e->∀ m,u < m->m < e->(t.at m).kind=2\/(t.at m).kind=3\/(t.at m).kind=4:=by
 intro n
 induction n with
 | zero=>intro u e h;exact absurd h (by simp [G0])
 | succ n ih =>
  intro u e h m h1 h2
  obtain ⟨⟨_,ht,_⟩,h⟩:=h
  rcases h with ⟨_,_,rfl⟩ | ⟨c,_,_,al,hb⟩ | ⟨c,_,_,vals,k,loc,mode,_,_,hk0,hke,hloc,hs,_⟩
  .omega
  .by_cases e1:m=u+1
   .subst e1
    simp only [CG,Bool.or_eq_true,and_eq_true,decide_eq_true_eq] at al
    rcases al with h | h
    .exact .inr (.inr h.1.1.1.1.1)
    .exact .inr (.inl h.1.1.1)
   .exact ih hb m (by omega) h2
  .obtain ⟨v,hv,a,b⟩:=Cw (k:=k) (m:=m) vals (by omega) (by omega)
   obtain ⟨s1,s2,s3⟩:=hs v hv
   by_cases e1:m=k v
   .subst e1
    simp only [DB,and_eq_true,decide_eq_true_eq] at s2
    exact .inl s2.1.1.1.1
   .exact ih s3 m (by omega) b
theorem A5.kind {t:A1} (h:A5 t) {m:Nat} (h2:m < t.nodes.length) (h3:0<=(t.at m).up):(t.at m).kind=2\/(t.at m).kind=3\/(t.at m).kind=4:=by
 by_cases c:m < t.locs.length
 .have:=(h.init m c).up;omega
 .obtain ⟨s,h0,he,hs⟩:=h.thr
  obtain ⟨v,hv,a,b⟩:=Cw (k:=s) (m:=m) t.regs.length (by omega) (by omega)
  obtain ⟨hb,n,hn⟩:=hs v hv
  by_cases e1:m=s v
  .subst e1
   simp only [Dt,and_eq_true,decide_eq_true_eq] at hb
   have:=hb.1.1.1.1.1.2
   omega
  .exact hn.kind m (by omega) b
structure Gr (t:A1) (s:A8) (k:Nat):Prop where
 big:Big t s k
 ok:∀ x∈s.has,BF t x=true
theorem Gr.sz {t:A1} (ht:A5 t) {s:A8} {k:Nat} (h:Gr t s k) (hk:k<=100):KZ s:=h.big.sz ht hk
theorem Gr.sz' {t:A1} {s:A8} {k:Nat} (h:Gr t s k) (hk:k<=100):s.has.length < 1000/\s.jf.length < 1000/\∀ l∈s.mo,∀ c∈l,c.length < 1000 :=
 ⟨by have:=h.big.has;omega,by have:=h.big.jf;omega,fun l hl c hc=>by have:=h.big.mc l hl c hc;omega⟩
theorem Aav {t:A1} (ht:A5 t):Gr t (AP t) 0:=by
 refine ⟨A7l ht,fun x hx=>?_⟩
 simp only [AP,DH,List.mem_map,List.mem_filter,List.mem_range] at hx
 obtain ⟨i,⟨hi,_⟩,rfl⟩:=hx
 exact BT hi
theorem Vy {t:A1} {s s':A8} {k:Nat} (h:Gr t s k) {n kind w:Int} (e:CL t s n kind w=some s'):Gr t s' (k+1):=by
 unfold CL at e
 split at e
 .rename_i h0
  cases e
  simp only [Cz,BJ,and_eq_true,decide_eq_true_eq] at h0
  refine ⟨A9M h.big h0.1.1.1.1.1.1.1.1.2 n w,?_⟩
  intro x hx
  simp only [C2,B9,List.mem_append,mem_cons] at hx
  rcases hx with hx | rfl | hx
  .exact h.ok x (List.mem_of_mem_take hx)
  .exact h0.1.1.1.2
  .exact h.ok x (List.mem_of_mem_drop hx)
 .cases e
theorem Agv {t:A1} {s:A8} {k loc:Nat} (h:Gr t s (k+1)) {L:List (List Int)} (h0:L≠[]) (h1:L.length<=2+k) (h2:∀ c∈L,c.length<=2+k):Gr t { s with mo:=s.mo.set loc L } (k+1):=by
 refine ⟨⟨h.big.has,h.big.jf,by rw [length_set];exact h.big.mo,?_,?_⟩,h.ok⟩
 .intro l hl
  rcases List.mem_or_eq_of_mem_set hl with hl | rfl
  .exact h.big.mi l hl
  .exact ⟨h0,by omega⟩
 .intro l hl c hc
  rcases List.mem_or_eq_of_mem_set hl with hl | rfl
  .exact h.big.mc l hl c hc
  .have:=h2 c hc;omega
theorem Big.row {t:A1} {s:A8} {k:Nat} (h:Big t s k) (loc:Nat):(s.mo.getD loc []).length<=1+k/\∀ c∈s.mo.getD loc [],c.length<=1+k:=by
 by_cases hl:loc < s.mo.length
 .have:=Af (d:=[]) hl
  exact ⟨(h.mi _ this).2,fun c hc=>h.mc _ this c hc⟩
 .rw [List.getD_eq_getElem?_getD,List.getElem?_eq_none (by omega)]
  simp
theorem Ad6 {t:A1} {s s':A8} {n kind w:Int} (e:CL t s n kind w=some s'):s'.mo=s.mo:=by
 unfold CL at e
 split at e
 .cases e;rfl
 .cases e
theorem Ab0 {t:A1} {s s':A8} {k:Nat} (h:Gr t s k) {n w:Int} (e:E0 t s n w=some s'):Gr t s' (k+1):=by
 unfold E0 at e
 split at e
 .rename_i x hx
  have hg:=Vy h hx
  have hm:=Ad6 hx
  split at e
  .cases e
  .cases e
   have hr:=h.big.row (t.at n.toNat).loc.toNat
   rw [<- hm] at hr
   refine Agv hg (by simp) ?_ ?_
   .simp only [length_append,length_cons,length_take,length_drop];omega
   .intro c hc
    simp only [List.mem_append,mem_cons] at hc
    rcases hc with hc | rfl | hc
    .have:=hr.2 c (List.mem_of_mem_take hc);omega
    .simp;omega
    .have:=hr.2 c (List.mem_of_mem_drop hc);omega
 .cases e
theorem Gr.mono {t:A1} {s:A8} {k j:Nat} (h:Gr t s k) (hk:k<=j):Gr t s j:=⟨h.big.mono hk,h.ok⟩
end Go.AM
