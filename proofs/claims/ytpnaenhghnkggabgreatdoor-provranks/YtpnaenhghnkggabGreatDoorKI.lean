/-
  Own work, part of the proof of these laws: what functions compute.
-/
import Derived.Test.YtpnaenhghnkggabGreatDoorKH
set_option maxRecDepth 10000
set_option maxHeartbeats 64000000
set_option linter.unusedVariables false
set_option linter.unusedSimpArgs false
set_option linter.unusedSectionVars false
set_option linter.unnecessarySimpa false
open Bool (and_eq_true false_eq_true)
open Int (toNat_natCast)
open List (getD_eq_getElem?_getD length_map length_append length_take length_set length_cons take_of_length_le nil_append map_append filter_append append_assoc range_succ length_drop cons_append append_nil map_cons mem_cons map_nil set_append_right filter_cons nodup_nil map_set mem_map)
open Nat (zero_le lt_or_ge)
namespace Go.AM
open Go Go.Proofs
abbrev agS (s:A6) (b:Nat):VV:=.ag [.sl b 0 0 s.has.length,.sl (b+1) 0 0 s.jf.length,.sl (b+1+1) 0 0 s.mo.length]
abbrev obS (s:A6):VH:=[some ⟨AO,1,0,false,s.has.map eI⟩,some ⟨AO,1,0,false,s.jf.map eI⟩,some (JB Bx 1 (s.mo.map De))]
theorem Zd {ty e:Nat} {rows:List (List VV)}:({ ty:=(JB ty e rows).ty,esz:=(JB ty e rows).esz,ver:=0,nl:=(JB ty e rows).nl,rows:=rows }:VO)=JB ty e rows:=by
 unfold JB
 split
 .rename_i h;rw [List.length_eq_zero_iff.1 h];rfl
 .rfl
theorem QG {α:Type} {g:α->Option (α×List Nat)}:∀ (l:List α) (k:Nat) (x y:α) (ids:List Nat),(∀ a∈l,g a=some (a,[]))->k < l.length->g x=some (y,ids)->B6 g (l.set k x)=some (l.set k y,ids)
 | [],k,x,y,ids,_,hk,_=>by simp at hk
 | a::l,0,x,y,ids,h,_,hx=>by
  have hl:B6 g l=some (l,[]):=by
   have:∀ (l:List α),(∀ a∈l,g a=some (a,[]))->B6 g l=some (l,[]):=by
    intro l
    induction l with
    | nil=>intro _;rfl
    | cons b l ih=>intro h;simp only [B6,h b (by simp),ih fun a ha=>h a (by simp [ha]),nil_append]
   exact this l fun a ha=>h a (by simp [ha])
  simp only [List.set_cons_zero,B6,hx,hl,append_nil]
 | a::l,k+1,x,y,ids,h,hk,hx=>by
  have:=QG l k x y ids (fun a ha=>h a (by simp [ha])) (by simpa using hk) hx
  simp only [List.set_cons_succ,B6,h a (by simp),this,nil_append]
theorem Aay {H:VH} {l:List (List (List Int))} {k:Nat} (hk:k < l.length) {v:VV} {X:List (List Int)} {ids:List Nat} (hv:frz H 5 v=some (.ls (X.map JC),ids)) :
  B6 (fun row=>B6 (frz H 5) row) (List.take l.length ((l.map De).set k [v]))=some ((l.set k X).map De,ids):=by
 rw [take_of_length_le (by simp)]
 rw [map_set]
 refine QG (l.map De) k [v] (De X) ids ?_ (by simpa using hk) ?_
 .intro a ha
  obtain ⟨c,_,rfl⟩:=List.mem_map.1 ha
  simp only [go_sem,P7,↓reduceIte]
 .simp only [B6,hv,append_nil]
section
variable {V:Am} (C:Ap V)
include C
theorem Rk (t:A2) (ht:A9 t) (s:A6) (hs:El s) (n kind w:Int) (h0:Ct t s n kind=false) (b:Nat) {Q:VV->VH->Prop}:TE V Jf [vT t,Eu s,.i .i64 n,.i .i64 kind,.i .i64 w] b Q↔Q (.tu [Eu Pp,.b false]) []:=by
 refine Hs ?_
 rw [Ht C.c_z101.2]
 have h5:=fun (Q:VV->Prop)=>Cg C t ht s hs (Q:=Q)
 have e0:(VV.tu [Eu Pp,.b false]) = .tu [.ag [.ls [],.ls [],.ls []],.b false]:=rfl
 have h6:=hs.has
 rw [e0]
 cases hf:Bd t s with
 | false =>
  simp only [CK,go_sem,↓reduceIte,h5,hf,Bl,Bl.takeL]
  exact nodup_nil
 | true =>
 cases h1:BU t n with
 | false =>
  simp only [CK,go_sem,↓reduceIte,h5,hf,Au C,h1,Bl,Bl.takeL]
  exact nodup_nil
 | true =>
 obtain ⟨m,rfl,hm⟩:=A7 h1
 cases h2:decide ((t.at m).kind=kind) with
 | false =>
  simp only [CK,go_sem,↓reduceIte,h5,hf,Au C,h1,A5 hm,h2,Bl,Bl.takeL]
  exact nodup_nil
 | true =>
 have w1:=Ea s.has (m:Int)
 cases h3:B9 s.has (m:Int) with
 | true =>
  rw [h3] at w1
  simp only [CK,go_sem,↓reduceIte,h5,hf,Au C,h1,A5 hm,h2,Ai C s.has (by omega),w1,Bl,Bl.takeL]
  exact nodup_nil
 | false =>
 rw [h3] at w1
 have w2:=C7 s.has (t.at m).up
 cases h4:B9 s.has (t.at m).up with
 | false =>
  rw [h4] at w2
  simp only [CK,go_sem,↓reduceIte,h5,hf,Au C,h1,A5 hm,h2,Ai C s.has (by omega),w1,w2,Bl,Bl.takeL]
  exact nodup_nil
 | true =>
  rw [Ct,hf,h1,toNat_natCast,h2,h3,h4] at h0
  cases h0
theorem Sm (t:A2) (ht:A9 t) (s:A6) (hs:El s) {m:Nat} (hm:m < t.nodes.length) (kind w:Int) (hok:Ct t s m kind=true) (b:Nat) {Q:VV->VH->Prop}:TE V Jf [vT t,Eu s,.i .i64 m,.i .i64 kind,.i .i64 w] b Q↔Q (.tu [agS (Bo s m w) b,.b true]) (obS (Bo s m w)):=by
 refine Hs ?_
 rw [Ht C.c_z101.2]
 have hr:=fun (Q:VV->Prop)=>Cg C t ht s hs (Q:=Q)
 have q0:=hs.has
 have h1:BU t (m:Int)=true:=Cl hm
 simp only [Ct,and_eq_true,Bool.not_eq_true',toNat_natCast] at hok
 obtain ⟨⟨⟨⟨hf,_⟩,h2⟩,h3⟩,h4⟩:=hok
 have w1:=Ea s.has (m:Int)
 have w2:=C7 s.has (t.at m).up
 rw [h3] at w1
 rw [h4] at w2
 have hq:=fun (b:Nat) (Q:VV->VH->Prop)=>Lr C s hs b (Q:=Q)
 simp only [CK,go_sem,↓reduceIte,hr,hf,Au C,h1,A5 hm,h2,Ai C s.has (by omega),w1,w2,hq]
 unfold VL
 rw [A0]
 have hy:s.jf.length=s.has.length:=by simp only [Bd,and_eq_true,decide_eq_true_eq] at hf;exact hf.1.1.1.1.2
 refine AA (M:=Nat) (I:=fun i F h=>i<=C4 s.has m/\A3.tmp F 2 = .i .i64 m/\A3.tmp F 4 = .i .i64 w/\A3.tmp F 6 = .fp (EX s) 0/\A3.tmp F 10 = .p 0 0 0 0/\A3.tmp F 12 = .p 4 0 0 0/\A3.tmp F 13 = .i .i64 i/\h=moH s) (μ:=fun i=>s.has.length - i) ?_ 0 _ _ ⟨zero_le _,?_,?_,?_,?_,?_,?_,rfl⟩
 .rintro i F h ⟨hi,p2,p4,p6,hk,hl,hn,rfl⟩
  have hg:=Mx hi
  have hz:=G9 s.has m
  by_cases c:i < s.has.length
  .cases c2:decide (s.has.getD i 0 < (m:Int)) with
   | true =>
    have hd:=of_decide_eq_true c2
    have q1:=hg.1 ⟨c,hd⟩
    have hw:IntKind.i64.wrap ((i:Int)+1)=((i+1:Nat):Int):=by rw [Av (by omega) (by omega)];omega
    simp only [EB,go_sem,↓reduceIte,p2,p4,p6,hk,hl,hn,c,Ak c,c2,A0,hw]
    exact ⟨i+1,by omega,by omega,rfl,rfl,rfl⟩
   | false =>
    have hd:=of_decide_eq_false c2
    have e:i=C4 s.has m:=by
     rcases lt_or_ge i (C4 s.has m) with h | h
     .exact absurd (My h) hd
     .omega
    obtain ⟨A,hA⟩:∃ A,A=s.has.take i:=⟨_,rfl⟩
    obtain ⟨B,hB⟩:∃ B,B=s.has.drop i:=⟨_,rfl⟩
    obtain ⟨A',h0⟩:∃ A,A=s.jf.take i:=⟨_,rfl⟩
    obtain ⟨B',h5⟩:∃ B,B=s.jf.drop i:=⟨_,rfl⟩
    have lA:A.length=i:=by rw [hA,length_take];omega
    have hv:A'.length=i:=by rw [h0,length_take];omega
    have lB:B.length=s.has.length - i:=by rw [hB,length_drop]
    have hh:B'.length=s.jf.length - i:=by rw [h5,length_drop]
    have tB:List.take (s.has.length - i) B=B:=take_of_length_le (by omega)
    have hp:List.take (s.jf.length - i) B' = B':=take_of_length_le (by omega)
    have c1:i<=s.has.length:=by omega
    have hc:i<=s.jf.length:=by omega
    have b1:A.length * 8<=A8:=by unfold A8;omega
    have h9:A'.length * 8<=A8:=by unfold A8;omega
    have b2:(A.length+1) * 8<=A8:=by unfold A8;omega
    have ha:(A'.length+1) * 8<=A8:=by unfold A8;omega
    obtain ⟨b0,Bs,rfl⟩:∃ b0 Bs,B=b0::Bs:=by
     cases B with
     | nil=>simp at lB;omega
     | cons b0 Bs=>exact ⟨b0,Bs,rfl⟩
    obtain ⟨h8,h6,rfl⟩:∃ b0 Bs,B' = b0::Bs:=by
     cases B' with
     | nil=>simp at hh;omega
     | cons b0 Bs=>exact ⟨b0,Bs,rfl⟩
    rw [length_cons] at lB hh
    have hx:List.take (s.has.length - i) (eI b0::List.map eI Bs)=eI b0::List.map eI Bs:=take_of_length_le (by simp;omega)
    have ho:List.take (s.jf.length - i) (eI h8::List.map eI h6)=eI h8::List.map eI h6:=take_of_length_le (by simp;omega)
    obtain ⟨X,hX⟩:∃ X,X=A++[(m:Int)]++b0::Bs:=⟨_,rfl⟩
    obtain ⟨X',he⟩:∃ X,X=A'++[w]++h8::h6:=⟨_,rfl⟩
    have jX:List.map eI (A++[(m:Int)])++eI b0::List.map eI Bs=List.map eI X:=by rw [hX,map_append (l₁:=A++[(m:Int)])];rfl
    have hu:List.map eI (A'++[w])++eI h8::List.map eI h6 = List.map eI X':=by rw [he,map_append (l₁:=A'++[w])];rfl
    have lX:A.length+1+(Bs.length+1)=X.length:=by rw [hX];simp;omega
    have hj:A'.length+1+(h6.length+1)=X'.length:=by rw [he];simp;omega
    have b3:X.length * 8<=A8:=by unfold A8;omega
    have hb:X'.length * 8<=A8:=by unfold A8;omega
    have eX:X=CA s.has (C4 s.has m) m:=by rw [hX,CA,<- e,<- hA,<- hB];simp
    have h7:X' = CA s.jf (C4 s.has m) w:=by rw [he,CA,<- e,<- h0,<- h5];simp
    simp only [EB,go_sem,↓reduceIte,p2,p4,p6,hk,hl,hn,c,Ak c,c2,A0,moH,<- hA,<- hB,<- h0,<- h5,hx,ho,c1,hc,b1,h9,b2,ha,b3,hb,length_append,length_map,Mg,KA,Mf,Bl,Bl.takeL,jX,hu,lX,hj]
    exact ⟨by decide,by rw [eX,h7];rfl,by rw [Zd,eX,h7];rfl⟩
  .have e:i=C4 s.has m:=by omega
   obtain ⟨A,hA⟩:∃ A,A=s.has.take i:=⟨_,rfl⟩
   obtain ⟨B,hB⟩:∃ B,B=s.has.drop i:=⟨_,rfl⟩
   obtain ⟨A',h0⟩:∃ A,A=s.jf.take i:=⟨_,rfl⟩
   obtain ⟨B',h5⟩:∃ B,B=s.jf.drop i:=⟨_,rfl⟩
   have lA:A.length=i:=by rw [hA,length_take];omega
   have hv:A'.length=i:=by rw [h0,length_take];omega
   have lB:B.length=s.has.length - i:=by rw [hB,length_drop]
   have hh:B'.length=s.jf.length - i:=by rw [h5,length_drop]
   have tB:List.take (s.has.length - i) B=B:=take_of_length_le (by omega)
   have hp:List.take (s.jf.length - i) B' = B':=take_of_length_le (by omega)
   have c1:i<=s.has.length:=by omega
   have hc:i<=s.jf.length:=by omega
   have b1:A.length * 8<=A8:=by unfold A8;omega
   have h9:A'.length * 8<=A8:=by unfold A8;omega
   have b2:(A.length+1) * 8<=A8:=by unfold A8;omega
   have ha:(A'.length+1) * 8<=A8:=by unfold A8;omega
   obtain rfl:B=[]:=List.length_eq_zero_iff.1 (by omega)
   obtain rfl:B' = []:=List.length_eq_zero_iff.1 (by omega)
   have b3:(A.length+1+0) * 8<=A8:=by unfold A8;omega
   have hb:(A'.length+1+0) * 8<=A8:=by unfold A8;omega
   simp only [EB,go_sem,↓reduceIte,p2,p4,p6,hk,hl,hn,c,A0,moH,<- hA,<- hB,<- h0,<- h5,tB,hp,c1,hc,b1,h9,b2,ha,b3,hb,length_append,length_map,Mg,KA,Mf,Bl,Bl.takeL]
   have eX:A++[(m:Int)]=CA s.has (C4 s.has m) m:=by rw [CA,<- e,<- hA,<- hB]
   have h7:A'++[w]=CA s.jf (C4 s.has m) w:=by rw [CA,<- e,<- h0,<- h5]
   have lX:A.length+1=(CA s.has (C4 s.has m) m).length:=by rw [<- eX];simp
   have hj:A'.length+1=(CA s.jf (C4 s.has m) w).length:=by rw [<- h7];simp
   exact ⟨by decide,by rw [lX,hj];rfl,by rw [Zd,eX,h7];rfl⟩
 .simp only [go_sem,↓reduceIte]
 .simp only [go_sem,↓reduceIte]
 .simp only [go_sem,↓reduceIte]
 .simp only [go_sem,↓reduceIte]
 .simp only [go_sem,↓reduceIte]
 .simp only [go_sem,↓reduceIte]
theorem A0F (t:A2) (ht:A9 t) (s:A6) (hs:El s) (n:Int) {Q:VV->Prop}:VP V AbU [vT t,Eu s,.i .i64 n] Q↔Q (HS (DJ t s n 4 (-1))):=by
 refine Ad ?_
 rw [Ab C.c_z59.1 C.c_z59.2]
 have hm:=fun (Q:VV->Prop)=>MR C t ht s hs n 4 (-1) (Q:=Q)
 cases h:DJ t s n 4 (-1) with
 | none =>
  rw [h] at hm
  simp only [HS,Pp] at hm ⊢
  simp only [Aab,go_sem,↓reduceIte,hm]
  rfl
 | some s' =>
  rw [h] at hm
  simp only [HS] at hm ⊢
  simp only [Aab,go_sem,↓reduceIte,hm]
def T8 (t:A2) (s:A6) (n w:Int):Option A6:=match DJ t s n 2 w with
 | some s'=>if Bd t s' = true then some s' else none
 | none=>none
theorem Yr (t:A2) (ht:A9 t) (s:A6) (hs:El s) (hz:s.has.length < 1000/\s.jf.length < 1000) (n w:Int) {Q:VV->Prop}:VP V AbW [vT t,Eu s,.i .i64 n,.i .i64 w] Q↔Q (HS (T8 t s n w)):=by
 refine Ad ?_
 rw [Ab C.c_z60.1 C.c_z60.2]
 have hm:=fun (Q:VV->Prop)=>MR C t ht s hs n 2 w (Q:=Q)
 unfold T8
 cases h:DJ t s n 2 w with
 | none =>
  rw [h] at hm
  simp only [HS,Pp] at hm ⊢
  simp only [A5b,go_sem,↓reduceIte,hm]
  rfl
 | some s' =>
  rw [h] at hm
  have h2:El s':=by
   rw [DJ] at h
   split at h
   .rename_i h0
    cases h
    have h1:=G9 s.has n
    have hj:s.jf.length=s.has.length:=by
     simp only [Ct,Bd,and_eq_true,decide_eq_true_eq] at h0
     exact h0.1.1.1.1.1.1.1.1.2
    exact ⟨by show (CA _ _ _).length<=1000;rw [GB h1];omega,by show (CA _ _ _).length<=1000;rw [GB (by omega)];omega,hs.mo,hs.mi,hs.mc⟩
   .cases h
  have hf:=fun (Q:VV->Prop)=>Cg C t ht s' h2 (Q:=Q)
  cases hff:Bd t s' with
  | false =>
   simp only [HS,Pp,hff,false_eq_true,if_false] at hm ⊢
   simp only [A5b,go_sem,↓reduceIte,hm,hf,hff]
   rfl
  | true =>
   simp only [HS,hff,if_true] at hm ⊢
   simp only [A5b,go_sem,↓reduceIte,hm,hf,hff]
def M7 (t:A2) (s:A6) (n at_:Int):Option A6:=match DJ t s n 3 (-1) with
 | some s'=>if at_ < 1\/((s'.mo.getD (t.at n.toNat).loc.toNat []).length:Int) < at_ then none else
   some { s' with mo:=s'.mo.set (t.at n.toNat).loc.toNat ((s'.mo.getD (t.at n.toNat).loc.toNat []).take at_.toNat++[n]::(s'.mo.getD (t.at n.toNat).loc.toNat []).drop at_.toNat) }
 | none=>none
theorem Si (t:A2) (ht:A9 t) (s:A6) (hs:El s) (n at_:Int) {Q:VV->Prop}:VP V AbY [vT t,Eu s,.i .i64 n,.i .i64 at_] Q↔Q (HS (M7 t s n at_)):=by
 refine Ad ?_
 rw [Ab C.c_z62.1 C.c_z62.2]
 unfold M7 DJ
 cases hok:Ct t s n 3 with
 | false =>
  have hm:=fun (b:Nat) (Q:VV->VH->Prop)=>Rk C t ht s hs n 3 (-1) hok b (Q:=Q)
  simp only [HS,Pp,false_eq_true,if_false] at hm ⊢
  simp only [SN,go_sem,↓reduceIte,hm]
  rfl
 | true =>
  have h7:=hok
  simp only [Ct,and_eq_true,decide_eq_true_eq] at h7
  obtain ⟨⟨⟨⟨hf,h1⟩,h2⟩,h3⟩,h4⟩:=h7
  obtain ⟨m,rfl,h6⟩:=A7 h1
  rw [toNat_natCast] at h2
  have hm:=fun (b:Nat) (Q:VV->VH->Prop)=>Sm C t ht s hs h6 3 (-1) hok b (Q:=Q)
  have hg:s.mo.length=t.locs.length:=by simp only [Bd,and_eq_true,decide_eq_true_eq] at hf;exact hf.1.1.1.2
  obtain ⟨l0,l1⟩:=ht.wloc h6 (.inr h2)
  obtain ⟨loc,h5⟩:=Int.eq_ofNat_of_zero_le l0
  have h9:loc < s.mo.length:=by omega
  rw [if_pos rfl]
  simp only [toNat_natCast,h5]
  have h0:loc < (Bo s m (-1)).mo.length:=h9
  have hz:JB Bx 1 (List.map De (Bo s m (-1)).mo) = ⟨Bx,1,0,false,List.map De (Bo s m (-1)).mo⟩:=by
   unfold JB
   rw [if_neg (by rw [length_map];omega)]
  have Cs:=BP h0
  have ha:=hs.mi' loc
  obtain ⟨L,hL⟩:∃ L,L=(Bo s m (-1)).mo.getD loc []:=⟨_,rfl⟩
  rw [<- hL] at Cs
  have he:L.length<=1000:=by rw [hL];exact ha
  rw [<- hL]
  cases c1:decide (at_ < 1) with
  | true =>
   rw [if_pos (.inl (of_decide_eq_true c1))]
   simp only [HS,Pp]
   simp only [SN,go_sem,↓reduceIte,hm,A5 h6,h5,hz,Cs,h0,c1]
   rfl
  | false =>
  have hc:=of_decide_eq_false c1
  obtain ⟨a,rfl⟩:=Int.eq_ofNat_of_zero_le (show 0<=at_ by omega)
  have h8:decide ((L.length:Int) < (a:Int))=decide (L.length < a):=decide_eq_decide.2 ⟨fun h=>by omega,fun h=>by omega⟩
  cases c2:decide (L.length < a) with
  | true =>
   have:=of_decide_eq_true c2
   rw [if_pos (.inr (by omega))]
   simp only [HS,Pp]
   simp only [SN,go_sem,↓reduceIte,hm,A5 h6,h5,hz,Cs,h0,c1,h8,c2]
   rfl
  | false =>
  have hd:=of_decide_eq_false c2
  rw [if_neg (by omega),toNat_natCast]
  have c3:a<=L.length:=by omega
  obtain ⟨A,hA⟩:∃ A,A=L.take a:=⟨_,rfl⟩
  obtain ⟨B,hB⟩:∃ B,B=L.drop a:=⟨_,rfl⟩
  have lA:A.length=a:=by rw [hA,length_take];omega
  have lB:B.length=L.length - a:=by rw [hB,length_drop]
  have b1:A.length * 24<=A8:=by unfold A8;omega
  have b2:(A.length+1) * 24<=A8:=by unfold A8;omega
  have jA:List.map JC A++[[VV.ls [[VV.i .i64 (m:Int)]]]]=List.map JC (A++[[(m:Int)]]):=by rw [map_append];rfl
  rw [<- hA,<- hB]
  cases B with
  | nil =>
   have b3:(A.length+1+0) * 24<=A8:=by unfold A8;omega
   have tB:List.take (L.length - a) ([]:List (List Int))=[]:=List.take_nil
   simp only [SN,go_sem,↓reduceIte,hm,A5 h6,h5,hz,Cs,h0,c1,h8,c2,c3,<- hA,<- hB,tB,b1,b2,b3,jA,length_append,length_map]
   rw [Aay h0 (X:=A++[[(m:Int)]]) (ids:=[8]) (by simp only [go_sem,↓reduceIte,length_append,length_map])]
   simp only [go_sem,↓reduceIte,length_set,length_map]
   rfl
  | cons b0 Bs =>
   rw [length_cons] at lB
   obtain ⟨X,hX⟩:∃ X,X=A++[[(m:Int)]]++b0::Bs:=⟨_,rfl⟩
   have hb:List.take (L.length - a) (JC b0::List.map JC Bs)=JC b0::List.map JC Bs:=take_of_length_le (by simp;omega)
   have jX:List.map JC (A++[[(m:Int)]])++JC b0::List.map JC Bs=List.map JC X:=by rw [hX,map_append (l₁:=A++[[(m:Int)]])];rfl
   have lX:A.length+1+(Bs.length+1)=X.length:=by rw [hX];simp;omega
   have b3:X.length * 24<=A8:=by unfold A8;omega
   simp only [SN,go_sem,↓reduceIte,hm,A5 h6,h5,hz,Cs,h0,c1,h8,c2,c3,<- hA,<- hB,hb,b1,b2,b3,jA,jX,lX,length_append,length_map]
   rw [Aay h0 (X:=X) (ids:=[8]) (by simp only [go_sem,↓reduceIte])]
   simp only [go_sem,↓reduceIte,length_set,length_map]
   have eX:X=A++[(m:Int)]::b0::Bs:=by rw [hX];simp
   rw [eX];rfl
end
section
variable {V:Am} {m:Nat->Nat} {Q:Ex->A3->VH->Prop}
theorem TH {M:Type} (I:M->A3->VH->Prop) (μ:M->Nat) {c:A1}
  (k:∀ x F h,I x F h->Vc V m c F h (fun e F' h'=>match e with | .norm=>¬ LY h.length h h'/\∃ x',μ x' < μ x/\I x' F' h' | e=>Q e F' h')):∀ x F h,I x F h->Vc V m (.loop c) F h Q:=by
 have h3:∀ j x F h,μ x<=j->I x F h->Vc V m (.loop c) F h Q:=by
  intro j
  induction j with
  | zero =>
   intro x F h hj hi
   rw [Py]
   refine (k x F h hi).mono fun e F' h' hq=>?_
   cases e with
   | norm=>obtain ⟨_,x',h1,_⟩:=hq;omega
   | _=>exact hq
  | succ j ih =>
   intro x F h hj hi
   rw [Py]
   refine (k x F h hi).mono fun e F' h' hq=>?_
   cases e with
   | norm =>
    obtain ⟨h0,x',h1,h2⟩:=hq
    unfold gcF gcH
    rw [if_neg h0,if_neg h0]
    exact ih x' _ _ (by omega) h2
   | _=>exact hq
 exact fun x F h hi=>h3 _ x F h (Nat.le_refl _) hi
end
abbrev i7 (n:Nat):Nat:=n+1+1+1+1+1+1+1
def Js (mo:List (List (List Int))):Nat->VH
 | 0=>[]
 | k+1=>Js mo k++[some (AX EA 1 ((mo.getD k []).map JC)),some ⟨Bx,1,0,false,[[.sl (i7 (2 * k)) (mo.getD k []).length 0 (mo.getD k []).length]]⟩]
theorem CU (mo:List (List (List Int))):∀ k,(Js mo k).length=2 * k
 | 0=>rfl
 | k+1=>by rw [Js,length_append,CU mo k];simp;omega
def Eo (mo:List (List (List Int))) (k:Nat):List (List VV):=(List.range k).map fun i=>[.sl (i7 (2 * i)) (mo.getD i []).length 0 (mo.getD i []).length]
theorem U0 (mo:List (List (List Int))) (k:Nat):(Eo mo k).length=k:=by simp [Eo]
theorem A9k (mo:List (List (List Int))) (k:Nat):Eo mo (k+1)=Eo mo k++[[.sl (i7 (2 * k)) (mo.getD k []).length 0 (mo.getD k []).length]]:=by
 unfold Eo
 rw [range_succ,map_append];rfl
theorem PB (mo:List (List (List Int))) (k:Nat) (Y:VH):(Js mo k++Y)[2 * k]? = Y[0]?/\(Js mo k++Y)[2 * k+1]? = Y[1]?/\(Js mo k++Y)[2 * k+1+1]? = Y[2]?:=by
 have:=CU mo k
 refine ⟨?_,?_,?_⟩<;>rw [List.getElem?_append_right (by omega)]<;>congr 1<;>omega
theorem A4X (mo:List (List (List Int))) (k:Nat) (Y:VH) (z:Option VO):(Js mo k++Y).set (2 * k) z=Js mo k++Y.set 0 z/\(Js mo k++Y).set (2 * k+1) z=Js mo k++Y.set 1 z:=by
 have:=CU mo k
 refine ⟨?_,?_⟩
 .have e:=set_append_right (s:=(Js mo k:List (Option VO))) (t:=Y) (2 * k) z (by omega)
  rw [this,Nat.sub_self] at e
  exact e
 .have e:=set_append_right (s:=(Js mo k:List (Option VO))) (t:=Y) (2 * k+1) z (by omega)
  rw [this,Nat.add_sub_cancel_left] at e
  exact e
theorem A9m (mo:List (List (List Int))) (k:Nat) (a b:Option VO):List.take (2 * k+1) (Js mo k++[a,b])=Js mo k++[a]:=by
 have e:(Js mo k++[a,b])=(Js mo k++[a])++[b]:=by simp
 rw [e]
 have hl:(Js mo k++[a]).length=2 * k+1:=by rw [length_append,CU];rfl
 rw [<- hl]
 exact List.take_left
def cpG (x0 x1:Option VO) (s:A6) (k:Nat):VH:=x0::x1::some ⟨Ae,0,0,false,[[.nl,.nl,.nl]]⟩::some (Qi AO 1 (s.has.map eI))::some (Qi AO 1 (s.jf.map eI)) ::
 some ⟨Ae,0,0,false,[[.sl 3 (GX s.has.length) 0 s.has.length,.sl 4 (GX s.jf.length) 0 s.jf.length,.sl 6 (Eo s.mo k).length 0 (Eo s.mo k).length]]⟩::some (AX Bx 1 (Eo s.mo k))::Js s.mo k
section
variable {V:Am} (C:Ap V)
include C
theorem Yp (s:A6) (hs:El s) (x0 x1:Option VO) {Q:VV->VH->Prop}:LC V SU [Eu s] [x0,x1] Q ↔
  Q (.ag [.sl 3 (GX s.has.length) 0 s.has.length,.sl 4 (GX s.jf.length) 0 s.jf.length,.sl 6 (Eo s.mo s.mo.length).length 0 (Eo s.mo s.mo.length).length])
   (x0::x1::some ⟨Ae,0,0,false,[[.sl 3 (GX s.has.length) 0 s.has.length,.sl 4 (GX s.jf.length) 0 s.jf.length,.sl 6 (Eo s.mo s.mo.length).length 0 (Eo s.mo s.mo.length).length]]⟩::(cpG x0 x1 s s.mo.length).drop 3):=by
 refine Na ?_
 rw [EP C.h_z40]
 have h1:=hs.has
 have h2:=hs.jf
 have h3:=hs.mo
 have b1:s.has.length * 8<=A8:=by unfold A8;omega
 have b2:s.jf.length * 8<=A8:=by unfold A8;omega
 simp only [A57,go_sem,↓reduceIte,b1,b2]
 unfold VL
 rw [A0]
 refine TH (M:=Nat) (I:=fun k F h=>k<=s.mo.length/\A3.tmp F 1 = .fp (EX s) 0/\A3.tmp F 2 = .p 2 0 0 0/\A3.tmp F 3 = .p 5 0 0 0/\A3.tmp F 4 = .i .i64 k/\h=cpG x0 x1 s k) (μ:=fun k=>s.mo.length - k) ?_ 0 _ _ ⟨zero_le _,?_,?_,?_,?_,?_⟩
 .rintro k F h ⟨h5,p1,p2,p3,p4,rfl⟩
  by_cases c:k < s.mo.length
  .have hm:=hs.mi' k
   have hw:IntKind.i64.wrap ((k:Int)+1)=((k+1:Nat):Int):=by rw [Av (by omega) (by omega)];omega
   simp only [A3o,go_sem,↓reduceIte,p1,p2,p3,p4,c,BP c,A0,cpG]
   have hT:=CU s.mo k
   have hg:=fun Y=>PB s.mo k Y
   have h0:=fun Y z=>A4X s.mo k Y z
   refine Aa (by decide) (s.mo.getD k []).length (by omega) (I:=fun j F h=>A3.tmp F 4 = .i .i64 k/\A3.tmp F 1 = .fp (EX s) 0/\A3.tmp F 2 = .p 2 0 0 0/\A3.tmp F 3 = .p 5 0 0 0/\∃ K,K=(s.mo.getD k []).take j/\A3.tmp F 5 = .sl (i7 (2 * k)) K.length 0 K.length/\h=cpG x0 x1 s k++[some (AX EA 1 (K.map JC))]) ?_ ?_ ?_ 0 _ _ (zero_le _) ?_ ?_
   .rintro j F h hj q6 ⟨q4,q1,q2,q3,K,hK,q5,rfl⟩
    simp only [go_sem,↓reduceIte,q6,q4,q1,q2,q3,q5,BP c]
    exact ⟨K,hK,rfl,rfl⟩
   .rintro j F h hj q6 ⟨q4,q1,q2,q3,K,hK,q5,rfl⟩
    have h4:(s.mo.getD k []).take (j+1)=K++[(s.mo.getD k []).getD j []]:=by
     rw [List.take_succ_eq_append_getElem hj,hK,getD_eq_getElem?_getD (l:=s.mo.getD k []),List.getElem?_eq_getElem hj];rfl
    have hc:=hs.mc' k j
    have hl:K.length=j:=by rw [hK,length_take];omega
    have b3:((s.mo.getD k []).getD j []).length * 8<=A8:=by unfold A8;omega
    have b4:(K.length+1) * 24<=A8:=by unfold A8;omega
    simp only [go_sem,↓reduceIte,q6,q4,q1,q2,q3,q5,BP c,EY hj,c,hj,b3,b4,cpG,AcM,A0,length_append,length_map,hT,(hg _).1,(hg _).2.1,(hg _).2.2,(h0 _ _).1,(h0 _ _).2]
    exact ⟨K++[(s.mo.getD k []).getD j []],h4.symm,by simp,by rw [A9m]⟩
   .rintro F h ⟨q4,q1,q2,q3,K,hK,q5,rfl⟩
    rw [List.take_length] at hK
    subst hK
    have hr:=U0 s.mo k
    have b4:((Eo s.mo k).length+1) * 24<=A8:=by unfold A8;omega
    simp only [go_sem,↓reduceIte,q4,q1,q2,q3,q5,b4,cpG,A6T,length_append,length_map,hT,(hg _).1,(hg _).2.1,(hg _).2.2,(h0 _ _).1,(h0 _ _).2,hw]
    refine ⟨?_,k+1,by omega,by omega,rfl,?_⟩
    .rintro (h | h)
     .have:=congrArg (fun o=>o.rows.length) h
      simp only [A7f,length_append] at this
      simp at this
     .rw [List.all_append,and_eq_true] at h
      have:=h.2
      simp [CF,bel] at this
    .rw [A9k,Js,length_append]
     rfl
   .simp only [go_sem,↓reduceIte]
   .simp only [go_sem,↓reduceIte,p4,p1,p2,p3,cpG,hT]
    exact ⟨[],rfl,rfl,rfl⟩
  .have e:k=s.mo.length:=by omega
   subst e
   simp only [A3o,go_sem,↓reduceIte,p1,p2,p3,p4,Nat.lt_irrefl,cpG]
 .simp only [go_sem,↓reduceIte]
 .simp only [go_sem,↓reduceIte]
 .simp only [go_sem,↓reduceIte]
 .simp only [go_sem,↓reduceIte]
 .rfl
end
def moG (x0:Option VO) (s:A6):VH:=x0::some ⟨Ae,0,0,false,[[.nl,.nl,.nl]]⟩ ::
 some ⟨Ae,0,0,false,[[.sl 3 (GX s.has.length) 0 s.has.length,.sl 4 (GX s.jf.length) 0 s.jf.length,.sl 6 (Eo s.mo s.mo.length).length 0 (Eo s.mo s.mo.length).length]]⟩::some (Qi AO 1 (s.has.map eI))::some (Qi AO 1 (s.jf.map eI)) ::
 some ⟨Ae,0,0,false,[[.sl 3 (GX s.has.length) 0 s.has.length,.sl 4 (GX s.jf.length) 0 s.jf.length,.sl 6 (Eo s.mo s.mo.length).length 0 (Eo s.mo s.mo.length).length]]⟩::some (AX Bx 1 (Eo s.mo s.mo.length)) ::
 (Js s.mo s.mo.length++[some ⟨Ae,0,0,false,[[.sl 3 (GX s.has.length) 0 s.has.length,.sl 4 (GX s.jf.length) 0 s.jf.length,.sl 6 (Eo s.mo s.mo.length).length 0 (Eo s.mo s.mo.length).length]]⟩])
abbrev moV (s S:A6) (v1 v2:Nat):VV:=.ag [.sl (i7 (2 * s.mo.length)+1) v1 0 S.has.length,.sl (i7 (2 * s.mo.length)+1+1) v2 0 S.jf.length,.sl 6 (Eo s.mo s.mo.length).length 0 (Eo s.mo s.mo.length).length]
abbrev S7 (s S:A6) (v1 v2:Nat):List VV:=[.sl (i7 (2 * s.mo.length)+1) v1 0 S.has.length,.sl (i7 (2 * s.mo.length)+1+1) v2 0 S.jf.length,.sl 6 (Eo s.mo s.mo.length).length 0 (Eo s.mo s.mo.length).length]
def moE (x0:Option VO) (s S:A6) (v1 v2:Nat):VH:=x0::some ⟨Ae,0,0,false,[S7 s S v1 v2]⟩ ::
 some ⟨Ae,0,0,false,[[.sl 3 (GX s.has.length) 0 s.has.length,.sl 4 (GX s.jf.length) 0 s.jf.length,.sl 6 (Eo s.mo s.mo.length).length 0 (Eo s.mo s.mo.length).length]]⟩::some (Qi AO 1 (s.has.map eI))::some (Qi AO 1 (s.jf.map eI)) ::
 some ⟨Ae,0,0,false,[[.sl 3 (GX s.has.length) 0 s.has.length,.sl 4 (GX s.jf.length) 0 s.jf.length,.sl 6 (Eo s.mo s.mo.length).length 0 (Eo s.mo s.mo.length).length]]⟩::some (AX Bx 1 (Eo s.mo s.mo.length)) ::
 (Js s.mo s.mo.length++[some ⟨Ae,0,0,false,[S7 s S v1 v2]⟩,some ⟨AO,1,v1,false,S.has.map eI⟩,some ⟨AO,1,v2,false,S.jf.map eI⟩])
theorem Afk (x0:Option VO) (s:A6):(moG x0 s).length=2 * s.mo.length+8:=by
 have hT:=CU s.mo s.mo.length
 simp [moG,hT]
section
variable {V:Am} (C:Ap V)
include C
theorem Yt (t:A2) (ht:A9 t) (s:A6) (hs:El s) {m:Nat} (hm:m < t.nodes.length) (kind w:Int) (hok:Ct t s m kind=true) (x0:Option VO):LC V Jf [vT t,Eu s,.i .i64 m,.i .i64 kind,.i .i64 w] [x0] fun r h'=>∃ v1 v2,r = .tu [moV s (Bo s m w) v1 v2,.b true]/\h' = moE x0 s (Bo s m w) v1 v2:=by
 rw [EP C.h_z101]
 have hy:=fun (Q:VV->Prop)=>Cg C t ht s hs (Q:=Q)
 have q4:=hs.has
 have h1:BU t (m:Int)=true:=Cl hm
 simp only [Ct,and_eq_true,Bool.not_eq_true',toNat_natCast] at hok
 obtain ⟨⟨⟨⟨hf,_⟩,h2⟩,h3⟩,h4⟩:=hok
 have w1:=Ea s.has (m:Int)
 have w2:=C7 s.has (t.at m).up
 rw [h3] at w1
 rw [h4] at w2
 have hx:=fun (Q:VV->VH->Prop)=>Yp C s hs x0 (some ⟨Ae,0,0,false,[[.nl,.nl,.nl]]⟩) (Q:=Q)
 have hT:=CU s.mo s.mo.length
 have hr:=U0 s.mo s.mo.length
 have hg:=fun Y=>PB s.mo s.mo.length Y
 have h6:=fun Y z=>A4X s.mo s.mo.length Y z
 have hl:decide (i7 (2 * s.mo.length) < (moG x0 s).length)=true:=decide_eq_true (by rw [Afk];show 2 * s.mo.length+7 < _;omega)
 simp only [CK,go_sem,↓reduceIte,hy,hf,Au C,h1,A5 hm,h2,Ai C s.has (by omega),w1,w2,hx,cpG,hT,(hg _).1,(hg _).2.1,(hg _).2.2,(h6 _ _).1,(h6 _ _).2]
 unfold VL
 rw [A0]
 have q2:s.jf.length=s.has.length:=by simp only [Bd,and_eq_true,decide_eq_true_eq] at hf;exact hf.1.1.1.1.2
 refine AA (M:=Nat) (I:=fun i F h=>i<=C4 s.has m/\A3.tmp F 2 = .i .i64 m/\A3.tmp F 4 = .i .i64 w/\A3.tmp F 6 = .fp (EX s) 0/\A3.tmp F 10 = .p 1 0 0 0/\A3.tmp F 12 = .p (i7 (2 * s.mo.length)) 0 0 0/\A3.tmp F 13 = .i .i64 i/\h=moG x0 s) (μ:=fun i=>s.has.length - i) ?_ 0 _ _ ⟨zero_le _,?_,?_,?_,?_,?_,?_,rfl⟩
 .rintro i F h ⟨hi,p2,p4,p6,ho,hp,hq,rfl⟩
  have hk:=Mx hi
  have q3:=G9 s.has m
  by_cases c:i < s.has.length
  .cases c2:decide (s.has.getD i 0 < (m:Int)) with
   | true =>
    have hh:=of_decide_eq_true c2
    have q5:=hk.1 ⟨c,hh⟩
    have hw:IntKind.i64.wrap ((i:Int)+1)=((i+1:Nat):Int):=by rw [Av (by omega) (by omega)];omega
    simp only [EB,go_sem,↓reduceIte,p2,p4,p6,ho,hp,hq,c,Ak c,c2,A0,hw,hl]
    refine ⟨i+1,by omega,by omega,?_⟩
    first | rfl | exact ⟨rfl,rfl⟩ | exact ⟨rfl,rfl,rfl⟩
   | false =>
    have hh:=of_decide_eq_false c2
    have e:i=C4 s.has m:=by
     rcases lt_or_ge i (C4 s.has m) with h | h
     .exact absurd (My h) hh
     .omega
    obtain ⟨A,hA⟩:∃ A,A=s.has.take i:=⟨_,rfl⟩
    obtain ⟨B,hB⟩:∃ B,B=s.has.drop i:=⟨_,rfl⟩
    obtain ⟨A',h0⟩:∃ A,A=s.jf.take i:=⟨_,rfl⟩
    obtain ⟨B',h5⟩:∃ B,B=s.jf.drop i:=⟨_,rfl⟩
    have lA:A.length=i:=by rw [hA,length_take];omega
    have q0:A'.length=i:=by rw [h0,length_take];omega
    have lB:B.length=s.has.length - i:=by rw [hB,length_drop]
    have hn:B'.length=s.jf.length - i:=by rw [h5,length_drop]
    have tB:List.take (s.has.length - i) B=B:=take_of_length_le (by omega)
    have hv:List.take (s.jf.length - i) B' = B':=take_of_length_le (by omega)
    have c1:i<=s.has.length:=by omega
    have he:i<=s.jf.length:=by omega
    have b1:A.length * 8<=A8:=by unfold A8;omega
    have hb:A'.length * 8<=A8:=by unfold A8;omega
    have b2:(A.length+1) * 8<=A8:=by unfold A8;omega
    have hc:(A'.length+1) * 8<=A8:=by unfold A8;omega
    obtain ⟨b0,Bs,rfl⟩:∃ b0 Bs,B=b0::Bs:=by
     cases B with
     | nil=>simp at lB;omega
     | cons b0 Bs=>exact ⟨b0,Bs,rfl⟩
    obtain ⟨h9,h7,rfl⟩:∃ b0 Bs,B' = b0::Bs:=by
     cases B' with
     | nil=>simp at hn;omega
     | cons b0 Bs=>exact ⟨b0,Bs,rfl⟩
    rw [length_cons] at lB hn
    have q1:List.take (s.has.length - i) (eI b0::List.map eI Bs)=eI b0::List.map eI Bs:=take_of_length_le (by simp;omega)
    have hu:List.take (s.jf.length - i) (eI h9::List.map eI h7)=eI h9::List.map eI h7:=take_of_length_le (by simp;omega)
    obtain ⟨X,hX⟩:∃ X,X=A++[(m:Int)]++b0::Bs:=⟨_,rfl⟩
    obtain ⟨X',hj⟩:∃ X,X=A'++[w]++h9::h7:=⟨_,rfl⟩
    have jX:List.map eI (A++[(m:Int)])++eI b0::List.map eI Bs=List.map eI X:=by rw [hX,map_append (l₁:=A++[(m:Int)])];rfl
    have hz:List.map eI (A'++[w])++eI h9::List.map eI h7 = List.map eI X':=by rw [hj,map_append (l₁:=A'++[w])];rfl
    have lX:A.length+1+(Bs.length+1)=X.length:=by rw [hX];simp;omega
    have ha:A'.length+1+(h7.length+1)=X'.length:=by rw [hj];simp;omega
    have b3:X.length * 8<=A8:=by unfold A8;omega
    have hd:X'.length * 8<=A8:=by unfold A8;omega
    have eX:X=CA s.has (C4 s.has m) m:=by rw [hX,CA,<- e,<- hA,<- hB];simp
    have h8:X' = CA s.jf (C4 s.has m) w:=by rw [hj,CA,<- e,<- h0,<- h5];simp
    simp only [EB,go_sem,↓reduceIte,p2,p4,p6,ho,hp,hq,c,Ak c,c2,A0,moG,<- hA,<- hB,<- h0,<- h5,q1,hu,c1,he,b1,hb,b2,hc,b3,hd,length_append,length_map,hT,(hg _).1,(hg _).2.1,(hg _).2.2,(h6 _ _).1,(h6 _ _).2,jX,hz,lX,ha]
    exact ⟨_,_,by rw [eX,h8];rfl,by rw [eX,h8];rfl⟩
  .have e:i=C4 s.has m:=by omega
   obtain ⟨A,hA⟩:∃ A,A=s.has.take i:=⟨_,rfl⟩
   obtain ⟨B,hB⟩:∃ B,B=s.has.drop i:=⟨_,rfl⟩
   obtain ⟨A',h0⟩:∃ A,A=s.jf.take i:=⟨_,rfl⟩
   obtain ⟨B',h5⟩:∃ B,B=s.jf.drop i:=⟨_,rfl⟩
   have lA:A.length=i:=by rw [hA,length_take];omega
   have q0:A'.length=i:=by rw [h0,length_take];omega
   have lB:B.length=s.has.length - i:=by rw [hB,length_drop]
   have hn:B'.length=s.jf.length - i:=by rw [h5,length_drop]
   have tB:List.take (s.has.length - i) B=B:=take_of_length_le (by omega)
   have hv:List.take (s.jf.length - i) B' = B':=take_of_length_le (by omega)
   have c1:i<=s.has.length:=by omega
   have he:i<=s.jf.length:=by omega
   have b1:A.length * 8<=A8:=by unfold A8;omega
   have hb:A'.length * 8<=A8:=by unfold A8;omega
   have b2:(A.length+1) * 8<=A8:=by unfold A8;omega
   have hc:(A'.length+1) * 8<=A8:=by unfold A8;omega
   obtain rfl:B=[]:=List.length_eq_zero_iff.1 (by omega)
   obtain rfl:B' = []:=List.length_eq_zero_iff.1 (by omega)
   have b3:(A.length+1+0) * 8<=A8:=by unfold A8;omega
   have hd:(A'.length+1+0) * 8<=A8:=by unfold A8;omega
   simp only [EB,go_sem,↓reduceIte,p2,p4,p6,ho,hp,hq,c,A0,moG,<- hA,<- hB,<- h0,<- h5,tB,hv,c1,he,b1,hb,b2,hc,b3,hd,length_append,length_map,hT,(hg _).1,(hg _).2.1,(hg _).2.2,(h6 _ _).1,(h6 _ _).2]
   have eX:A++[(m:Int)]=CA s.has (C4 s.has m) m:=by rw [CA,<- e,<- hA,<- hB]
   have h8:A'++[w]=CA s.jf (C4 s.has m) w:=by rw [CA,<- e,<- h0,<- h5]
   have lX:A.length+1=(CA s.has (C4 s.has m) m).length:=by rw [<- eX];simp
   have ha:A'.length+1=(CA s.jf (C4 s.has m) w).length:=by rw [<- h8];simp
   exact ⟨_,_,by rw [lX,ha];rfl,by rw [lX,ha,eX,h8];rfl⟩
 .simp only [go_sem,↓reduceIte]
 .simp only [go_sem,↓reduceIte]
 .simp only [go_sem,↓reduceIte]
 .simp only [go_sem,↓reduceIte]
 .simp only [go_sem,↓reduceIte]
 .simp only [go_sem,↓reduceIte]
end
theorem A1C (mo:List (List (List Int))) {loc:Nat}:∀ {n:Nat},loc < n->∀ Y:VH,(Js mo n++Y)[2 * loc]? = some (some (AX EA 1 ((mo.getD loc []).map JC)))
 | 0,h,_=>by omega
 | n+1,h,Y=>by
  rw [Js,append_assoc]
  by_cases c:loc=n
  .subst c
   rw [(PB mo loc _).1];rfl
  .exact A1C mo (by omega) _
theorem U1 (mo:List (List (List Int))) {n loc i:Nat} (hl:loc < n) (hi:i < n) (z:Option VO) (Y:VH):((Js mo n).set (2 * loc) z++Y)[2 * i]? = some (if i=loc then z else some (AX EA 1 ((mo.getD i []).map JC))):=by
 have hT:=CU mo n
 rw [List.getElem?_append_left (by rw [length_set];omega),List.getElem?_set]
 by_cases c:i=loc
 .subst c
  simp;omega
 .rw [if_neg (by omega),if_neg c]
  have:=A1C mo hi []
  rwa [append_nil] at this
theorem A9l (mo:List (List (List Int))) (n loc j:Nat) (z:Option VO) (Y:VH):((Js mo n).set (2 * loc) z++Y)[2 * n+j]? = Y[j]?:=by
 have hT:=CU mo n
 rw [List.getElem?_append_right (by rw [length_set];omega),length_set,hT]
 congr 1;omega
theorem Ahu (mo:List (List (List Int))) (n loc j:Nat) (z y:Option VO) (Y:VH):((Js mo n).set (2 * loc) z++Y).set (2 * n+j) y=(Js mo n).set (2 * loc) z++Y.set j y:=by
 have hT:=CU mo n
 have hl:((Js mo n).set (2 * loc) z).length=2 * n:=by rw [length_set];exact hT
 have e:=set_append_right (s:=((Js mo n).set (2 * loc) z:List (Option VO))) (t:=Y) (2 * n+j) y (by omega)
 rw [hl,Nat.add_sub_cancel_left] at e
 exact e
theorem A3U {α:Type} {g:α->Option (α×List Nat)} {f h:Nat->α} {is:Nat->List Nat}:∀ (n:Nat),(∀ i,i < n->g (f i)=some (h i,is i))->∃ ids,B6 g ((List.range n).map f)=some ((List.range n).map h,ids):=by
 have app:∀ (a b:List α) {x y:List α} {i j:List Nat},B6 g a=some (x,i)->B6 g b=some (y,j)->B6 g (a++b)=some (x++y,i++j):=by
  intro a
  induction a with
  | nil=>intro b x y i j h1 h2;simp only [B6,Option.some.injEq,Prod.mk.injEq] at h1;obtain ⟨rfl,rfl⟩:=h1;exact h2
  | cons a0 a ih =>
   intro b x y i j h1 h2
   simp only [B6] at h1
   split at h1
   .rename_i y0 i0 ys is e1 e2
    simp only [Option.some.injEq,Prod.mk.injEq] at h1
    obtain ⟨rfl,rfl⟩:=h1
    simp only [cons_append,B6,e1,ih b e2 h2,append_assoc]
   .cases h1
 intro n
 induction n with
 | zero=>intro _;exact ⟨[],rfl⟩
 | succ n ih =>
  intro hg
  obtain ⟨ids,e⟩:=ih fun i hi=>hg i (by omega)
  refine ⟨ids++(is n++[]),?_⟩
  rw [range_succ,map_append,map_append]
  refine app _ _ e ?_
  simp only [map_cons,map_nil,B6,hg n (by omega)]
theorem Am1 {H:VH} {d:Nat} {l:List (List Int)} {k:Nat} (hk:k < l.length) {v:VV} {X:List Int} {ids:List Nat} (hv:frz H (d+2) v=some (.ls (X.map eI),ids)) :
  B6 (fun row=>B6 (frz H (d+2)) row) (List.take l.length ((l.map JC).set k [v]))=some ((l.set k X).map JC,ids):=by
 rw [take_of_length_le (by simp)]
 rw [map_set]
 refine QG (l.map JC) k [v] (JC X) ids ?_ (by simpa using hk) ?_
 .intro a ha
  obtain ⟨c,_,rfl⟩:=List.mem_map.1 ha
  simp only [go_sem,P7,↓reduceIte]
 .simp only [B6,hv,append_nil]
theorem Uq {f d:Nat} (hf:f=d+4) {mo:List (List (List Int))} {loc:Nat} (hll:loc < mo.length) {L:List (List Int)} (hL:mo.getD loc []=L) {a:Nat} (ha:a < L.length) (a0 a1 a2 a3 a4 a5 a6:Option VO) {Y:VH} {idx v id:Nat} {X:List Int} (hid:id=i7 (2 * mo.length+idx))
  (hY:Y[idx]? = some (some ⟨AO,1,v,false,X.map eI⟩)) :
  ∃ ids,B6 (fun row=>B6 (frz (a0::a1::a2::a3::a4::a5::a6::((Js mo mo.length).set (2 * loc) (some ⟨EA,1,L.length,false,(L.map JC).set a [.sl id v 0 X.length]⟩)++Y)) f) row) (Eo mo mo.length)=some ((mo.set loc (L.set a X)).map De,ids):=by
 subst hid
 subst hf
 obtain ⟨ids,e⟩:=A3U (g:=fun row=>B6 (frz (a0::a1::a2::a3::a4::a5::a6::((Js mo mo.length).set (2 * loc) (some ⟨EA,1,L.length,false,(L.map JC).set a [.sl (i7 (2 * mo.length+idx)) v 0 X.length]⟩)++Y)) (d+4)) row)
  (f:=fun i=>[.sl (i7 (2 * i)) (mo.getD i []).length 0 (mo.getD i []).length]) (h:=fun i=>De ((mo.set loc (L.set a X)).getD i [])) (is:=fun i=>if i=loc then [i7 (2 * i),i7 (2 * mo.length+idx)] else [i7 (2 * i)]) mo.length (fun i hi=>by
   by_cases c:i=loc
   .subst c
    have h1:=fun z=>U1 mo hll hi z Y
    have h2:=fun z=>A9l mo mo.length i idx z Y
    rw [hL]
    have h3:(mo.set i (L.set a X)).getD i []=L.set a X:=by rw [getD_eq_getElem?_getD,List.getElem?_set];simp [hll]
    rw [h3]
    simp only [if_true] at h1
    simp only [go_sem,↓reduceIte,h1,h2,hY,length_map,length_set,↓reduceIte]
    rw [Am1 ha (X:=X) (ids:=[i7 (2 * mo.length+idx)]) (by simp only [go_sem,↓reduceIte,h2,hY,length_map])]
    rfl
   .have h1:=fun z=>U1 mo hll hi z Y
    have h3:(mo.set loc (L.set a X)).getD i []=mo.getD i []:=by rw [getD_eq_getElem?_getD,getD_eq_getElem?_getD,List.getElem?_set_ne (by omega)]
    rw [h3]
    simp only [c,if_false] at h1 ⊢
    simp only [go_sem,↓reduceIte,h1,length_map,↓reduceIte])
 refine ⟨ids,?_⟩
 rw [show Eo mo mo.length=(List.range mo.length).map fun i=>[VV.sl (i7 (2 * i)) (mo.getD i []).length 0 (mo.getD i []).length] from rfl,e]
 congr 2
 apply List.ext_getElem
 .simp
 .intro i h1 h2
  have hi:i < (mo.set loc (L.set a X)).length:=by simpa using h1
  rw [List.getElem_map,List.getElem_map,List.getElem_range,getD_eq_getElem?_getD,List.getElem?_eq_getElem hi];rfl
theorem Ahs {mo:List (List (List Int))} {n loc:Nat} (h:loc < n):(Eo mo n)[loc]? = some [.sl (i7 (2 * loc)) (mo.getD loc []).length 0 (mo.getD loc []).length]:=by simp [Eo,h]
theorem Aht (mo:List (List (List Int))) (k j:Nat) (Y:VH):(Js mo k++Y)[2 * k+j]? = Y[j]?:=by
 have:=CU mo k
 rw [List.getElem?_append_right (by omega)]
 congr 1;omega
theorem Ahv (mo:List (List (List Int))) (k j:Nat) (Y:VH) (z:Option VO):(Js mo k++Y).set (2 * k+j) z=Js mo k++Y.set j z:=by
 have hl:=CU mo k
 have e:=set_append_right (s:=(Js mo k:List (Option VO))) (t:=Y) (2 * k+j) z (by omega)
 rw [hl,Nat.add_sub_cancel_left] at e
 exact e
theorem AdQ (mo:List (List (List Int))) {n loc:Nat} (h:loc < n) (Y:VH) (z:Option VO):(Js mo n++Y).set (2 * loc) z=(Js mo n).set (2 * loc) z++Y:=by
 have hl:=CU mo n
 exact List.set_append_left (2 * loc) z (by omega)
def SS (t:A2) (s:A6) (n at_:Int):Option A6:=match DJ t s n 3 (-1) with
 | some s' =>
  let loc:=(t.at n.toNat).loc.toNat
  let L:=s'.mo.getD loc []
  if at_ < 1\/(L.length:Int)<=at_ then none else
   let c:=L.getD at_.toNat []
   let s'':A6:={ s' with mo:=s'.mo.set loc (L.set at_.toNat (CA c (C4 c n) n)) }
   if Bd t s'' = true then some s'' else none
 | none=>none
def joH (s S:A6) (v1 v2:Nat):VH:=moE (some ⟨Ae,0,0,false,[[.nl,.nl,.nl]]⟩) s S v1 v2++[some Dh,some Dh,some Dh,some ⟨Ae,0,0,false,[S7 s S v1 v2]⟩]
theorem Aek (s S:A6) (v1 v2:Nat):(joH s S v1 v2).length=2 * s.mo.length+14:=by
 have hT:=CU s.mo s.mo.length
 simp [joH,moE,hT]
theorem LC.mono {V:Am} {g:Nat} {args:List VV} {h:VH} {Q Q':VV->VH->Prop} (k:LC V g args h Q) (i:∀ v h',Q v h'->Q' v h'):LC V g args h Q':=by
 obtain ⟨vf,e,hb⟩:=k
 exact ⟨vf,e,hb.mono i⟩
theorem A5t {s:A6} (hs:El s) (hz:s.has.length < 1000/\s.jf.length < 1000/\∀ l∈s.mo,∀ c∈l,c.length < 1000) (n w:Int) (hj:s.jf.length=s.has.length) {loc a:Nat} {L:List (List Int)} (hL:s.mo.getD loc []=L) (hll:loc < s.mo.length) {X:List Int} (hX:X.length<=1000) :
  El ⟨(Bo s n w).has,(Bo s n w).jf,(Bo s n w).mo.set loc (L.set a X)⟩:=by
 have h1:=G9 s.has n
 have hm:=Ac (d:=[]) hll
 rw [hL] at hm
 refine ⟨by show (CA _ _ _).length<=1000;rw [GB h1];omega,by show (CA _ _ _).length<=1000;rw [GB (by omega)];omega,by show (s.mo.set _ _).length<=1000;rw [length_set];exact hs.mo,?_,?_⟩
 .intro l hl
  rcases List.mem_or_eq_of_mem_set hl with h | rfl
  .exact hs.mi l h
  .rw [length_set];exact hs.mi L hm
 .intro l hl c hc
  rcases List.mem_or_eq_of_mem_set hl with h | rfl
  .exact hs.mc l h c hc
  .rcases List.mem_or_eq_of_mem_set hc with h | rfl
   .exact hs.mc L hm c h
   .exact hX
section
variable {V:Am} (C:Ap V)
include C
theorem Rl (t:A2) (ht:A9 t) (s:A6) (hs:El s) (n kind w:Int) (h0:Ct t s n kind=false) (x0:Option VO) {Q:VV->VH->Prop}:LC V Jf [vT t,Eu s,.i .i64 n,.i .i64 kind,.i .i64 w] [x0] Q↔Q (.tu [.ag [.nl,.nl,.nl],.b false]) [x0,some ⟨Ae,0,0,false,[[.nl,.nl,.nl]]⟩]:=by
 refine Na ?_
 rw [EP C.h_z101]
 have h5:=fun (Q:VV->Prop)=>Cg C t ht s hs (Q:=Q)
 have h6:=hs.has
 cases hf:Bd t s with
 | false =>
  simp only [CK,go_sem,↓reduceIte,h5,hf]
 | true =>
 cases h1:BU t n with
 | false =>
  simp only [CK,go_sem,↓reduceIte,h5,hf,Au C,h1]
 | true =>
 obtain ⟨m,rfl,hm⟩:=A7 h1
 cases h2:decide ((t.at m).kind=kind) with
 | false =>
  simp only [CK,go_sem,↓reduceIte,h5,hf,Au C,h1,A5 hm,h2]
 | true =>
 have w1:=Ea s.has (m:Int)
 cases h3:B9 s.has (m:Int) with
 | true =>
  rw [h3] at w1
  simp only [CK,go_sem,↓reduceIte,h5,hf,Au C,h1,A5 hm,h2,Ai C s.has (by omega),w1]
 | false =>
 rw [h3] at w1
 have w2:=C7 s.has (t.at m).up
 cases h4:B9 s.has (t.at m).up with
 | false =>
  rw [h4] at w2
  simp only [CK,go_sem,↓reduceIte,h5,hf,Au C,h1,A5 hm,h2,Ai C s.has (by omega),w1,w2]
 | true =>
  rw [Ct,hf,h1,toNat_natCast,h2,h3,h4] at h0
  cases h0
theorem Yq (t:A2) (ht:A9 t) (s:A6) (hs:El s) (hz:s.has.length < 1000/\s.jf.length < 1000/\∀ l∈s.mo,∀ c∈l,c.length < 1000) (n at_:Int) {Q:VV->Prop}:VP V AbX [vT t,Eu s,.i .i64 n,.i .i64 at_] Q↔Q (HS (SS t s n at_)):=by
 refine Ad ?_
 rw [Ab C.c_z61.1 C.c_z61.2]
 unfold SS DJ
 cases hok:Ct t s n 3 with
 | false =>
  have hm:=fun (x0:Option VO) (Q:VV->VH->Prop)=>Rl C t ht s hs n 3 (-1) hok x0 (Q:=Q)
  simp only [HS,Pp,false_eq_true,if_false] at hm ⊢
  simp only [Aac,go_sem,↓reduceIte,hm]
  rfl
 | true =>
  have ho:=hok
  simp only [Ct,and_eq_true,decide_eq_true_eq] at ho
  obtain ⟨⟨⟨⟨hf,h1⟩,h2⟩,h3⟩,h4⟩:=ho
  obtain ⟨m,rfl,hn⟩:=A7 h1
  rw [toNat_natCast] at h2
  have ql:s.mo.length=t.locs.length:=by simp only [Bd,and_eq_true,decide_eq_true_eq] at hf;exact hf.1.1.1.2
  have qb:s.jf.length=s.has.length:=by simp only [Bd,and_eq_true,decide_eq_true_eq] at hf;exact hf.1.1.1.1.2
  obtain ⟨l0,l1⟩:=ht.wloc hn (.inr h2)
  obtain ⟨loc,h7⟩:=Int.eq_ofNat_of_zero_le l0
  have h5:loc < s.mo.length:=by omega
  rw [if_pos rfl]
  simp only [toNat_natCast,h7]
  simp only [Aac,go_sem,↓reduceIte]
  refine LC.mono (Yt C t ht s hs hn 3 (-1) hok _) ?_
  rintro _ _ ⟨v1,v2,rfl,rfl⟩
  have hT:=CU s.mo s.mo.length
  have hr:=U0 s.mo s.mo.length
  have hk:=Ahs (mo:=s.mo) h5
  have hh:=fun Y=>A1C s.mo h5 Y
  have hg:=fun Y=>PB s.mo s.mo.length Y
  have hu:loc < (Eo s.mo s.mo.length).length:=by omega
  have hq:=H9 (ty:=Bx) (e:=1) (rows:=Eo s.mo s.mo.length) (by omega)
  have hj:=fun j Y=>Aht s.mo s.mo.length j Y
  have hc:=fun j Y z=>Ahv s.mo s.mo.length j Y z
  have qc:=fun Y z=>AdQ s.mo h5 Y z
  obtain ⟨L,hL⟩:∃ L,L=(Bo s m (-1)).mo.getD loc []:=⟨_,rfl⟩
  have h6:s.mo.getD loc []=L:=hL.symm
  have qe:=hs.mi' loc
  rw [<- hL]
  rw [h6] at hk hh qe
  cases c1:decide (at_ < 1) with
  | true =>
   rw [if_pos (.inl (of_decide_eq_true c1))]
   simp only [HS,Pp]
   simp only [go_sem,↓reduceIte,moE,hT,hk,hh,A5 hn,h7,h5,hj 6,hc 6,c1]
   rfl
  | false =>
  have qg:=of_decide_eq_false c1
  obtain ⟨a,rfl⟩:=Int.eq_ofNat_of_zero_le (show 0<=at_ by omega)
  have q6:decide ((L.length:Int)<=(a:Int))=decide (L.length<=a):=decide_eq_decide.2 ⟨fun h=>by omega,fun h=>by omega⟩
  cases c2:decide (L.length<=a) with
  | true =>
   have:=of_decide_eq_true c2
   rw [if_pos (.inr (by omega))]
   simp only [HS,Pp]
   simp only [go_sem,↓reduceIte,moE,hT,hk,hh,A5 hn,h7,h5,hu,hq,hj 6,hc 6,c1,q6,c2]
   rfl
  | false =>
  have qh:=of_decide_eq_false c2
  have c3:a < L.length:=by omega
  rw [if_neg (by omega),toNat_natCast]
  obtain ⟨c,hp⟩:∃ c,c=L.getD a []:=⟨_,rfl⟩
  have hx:L[a]? = some c:=by rw [EY c3,hp]
  have qd:=hs.mc' loc a
  rw [h6,<- hp] at qd
  have qi:c.length < 1000:=by
   have hm:=Ac (d:=[]) h5
   rw [h6] at hm
   refine hz.2.2 L hm c ?_
   rw [hp]
   exact Ac c3
  rw [<- hp]
  have hb:=H9 (ty:=EA) (e:=1) (rows:=L.map JC) (by rw [length_map];omega)
  simp only [go_sem,↓reduceIte,moE,hT,hk,hh,A5 hn,h7,h5,hu,hq,hj 6,hc 6,c1,q6,c2,hx,c3,hb,length_map]
  have qa:AX EA 1 (L.map JC) = ⟨EA,1,L.length,false,L.map JC⟩:=by
   unfold AX
   rw [if_neg (by rw [length_map];omega),length_map]
  have q8:decide (i7 (2 * s.mo.length+6)=2 * s.mo.length+7+1+1+1+1+1+1+1)=false:=decide_eq_false (by show ¬ 2 * s.mo.length+6+7=2 * s.mo.length+7+7;omega)
  have q7:decide (6=2 * s.mo.length+7+1+1+1+1+1+1+1)=false:=decide_eq_false (by omega)
  have q9:decide (i7 (2 * loc)=2 * s.mo.length+7+1+1+1+1+1+1+1)=false:=decide_eq_false (by show ¬ 2 * loc+7=2 * s.mo.length+7+7;omega)
  have h0:=fun j z Y=>A9l s.mo s.mo.length loc j z Y
  have hv:=fun j z y Y=>Ahu s.mo s.mo.length loc j z y Y
  have hl:∀ z Y,((Js s.mo s.mo.length).set (2 * loc) z++Y)[2 * loc]? = some z:=fun z Y=>by rw [U1 s.mo h5 h5 z Y,if_pos rfl]
  unfold VL
  rw [A0]
  refine AA (M:=Nat) (I:=fun i F h=>i<=C4 c m/\A3.tmp F 2 = .i .i64 m/\A3.tmp F 3 = .i .i64 a/\A3.tmp F 4 = .fp (eT t) 0/\A3.tmp F 8 = .p 0 0 0 0/\A3.tmp F 10 = .p (i7 (2 * s.mo.length+6)) 0 0 0/\A3.tmp F 12 = .i .i64 loc/\A3.tmp F 13=lI c/\A3.tmp F 14 = .i .i64 i/\h=joH s (Bo s m (-1)) v1 v2) (μ:=fun i=>c.length - i) ?_ 0 _ _ ⟨zero_le _,?_,?_,?_,?_,?_,?_,?_,?_,?_⟩
  .rintro i F h ⟨hi,p2,p3,p4,p8,he,q3,q4,q5,rfl⟩
   have q0:=Mx hi
   have qj:=G9 c m
   have q1:decide (i7 (2 * s.mo.length+6) < (joH s (Bo s m (-1)) v1 v2).length)=true:=decide_eq_true (by rw [Aek];show 2 * s.mo.length+6+7 < _;omega)
   by_cases ci:i < c.length
   .cases ci2:decide (c.getD i 0 < (m:Int)) with
    | true =>
     have h8:=of_decide_eq_true ci2
     have qk:=q0.1 ⟨ci,h8⟩
     have hw:IntKind.i64.wrap ((i:Int)+1)=((i+1:Nat):Int):=by rw [Av (by omega) (by omega)];omega
     simp only [UD,go_sem,↓reduceIte,p2,p3,p4,p8,he,q3,q4,q5,ci,Ak ci,ci2,A0,hw,q1]
     exact ⟨i+1,by omega,by omega,rfl,rfl⟩
    | false =>
     have h8:=of_decide_eq_false ci2
     have e:i=C4 c m:=by
      rcases lt_or_ge i (C4 c m) with h | h
      .exact absurd (My h) h8
      .omega
     obtain ⟨A,hA⟩:∃ A,A=c.take i:=⟨_,rfl⟩
     obtain ⟨B,hB⟩:∃ B,B=c.drop i:=⟨_,rfl⟩
     have lA:A.length=i:=by rw [hA,length_take];omega
     have lB:B.length=c.length - i:=by rw [hB,length_drop]
     have k1:i<=c.length:=by omega
     have b1:A.length * 8<=A8:=by unfold A8;omega
     have b2:(A.length+1) * 8<=A8:=by unfold A8;omega
     obtain ⟨b0,Bs,rfl⟩:∃ b0 Bs,B=b0::Bs:=by
      cases B with
      | nil=>simp at lB;omega
      | cons b0 Bs=>exact ⟨b0,Bs,rfl⟩
     rw [length_cons] at lB
     have qf:List.take (c.length - i) (eI b0::List.map eI Bs)=eI b0::List.map eI Bs:=take_of_length_le (by simp;omega)
     obtain ⟨X,hX⟩:∃ X,X=A++[(m:Int)]++b0::Bs:=⟨_,rfl⟩
     have jX:List.map eI (A++[(m:Int)])++eI b0::List.map eI Bs=List.map eI X:=by rw [hX,map_append (l₁:=A++[(m:Int)])];rfl
     have lX:A.length+1+(Bs.length+1)=X.length:=by rw [hX];simp;omega
     have b3:X.length * 8<=A8:=by unfold A8;omega
     have eX:X=CA c (C4 c m) m:=by rw [hX,CA,<- e,<- hA,<- hB];simp
     rw [<- eX]
     simp only [UD,go_sem,↓reduceIte,p2,p3,p4,p8,he,q3,q4,q5,ci,Ak ci,ci2,A0,joH,moE,cons_append,append_assoc,nil_append,hT,hk,hh,h5,hu,hq,hb,qa,hj 6,hj 7,hc 6,hc 7,qc,h0 1,h0 2,h0 6,h0 7,hv 6,hv 7,hl,q8,q7,q9,k1,<- hA,<- hB,qf,b1,b2,b3,jX,lX,c3,hx,length_append,length_map]
     obtain ⟨ids,hy⟩:=Uq (f:=6) (d:=2) rfl h5 h6 c3 (some ⟨Ae,0,0,false,[[.nl,.nl,.nl]]⟩) (some ⟨Ae,0,0,false,[S7 s (Bo s m (-1)) v1 v2]⟩) (some ⟨Ae,0,0,false,[[.sl 3 (GX s.has.length) 0 s.has.length,.sl 4 (GX s.jf.length) 0 s.jf.length,.sl 6 (Eo s.mo s.mo.length).length 0 (Eo s.mo s.mo.length).length]]⟩) (some (Qi AO 1 (s.has.map eI))) (some (Qi AO 1 (s.jf.map eI))) (some ⟨Ae,0,0,false,[[.sl 3 (GX s.has.length) 0 s.has.length,.sl 4 (GX s.jf.length) 0 s.jf.length,.sl 6 (Eo s.mo s.mo.length).length 0 (Eo s.mo s.mo.length).length]]⟩) (some (AX Bx 1 (Eo s.mo s.mo.length)))
      (Y:=[some ⟨Ae,0,0,false,[S7 s (Bo s m (-1)) v1 v2]⟩,some ⟨AO,1,v1,false,(Bo s m (-1)).has.map eI⟩,some ⟨AO,1,v2,false,(Bo s m (-1)).jf.map eI⟩,some Dh,some Dh,some Dh,some ⟨Ae,0,0,false,[S7 s (Bo s m (-1)) v1 v2]⟩,some ⟨AO,1,GX A.length+1+1,false,X.map eI⟩]) (idx:=7) (id:=2 * s.mo.length+7+1+1+1+1+1+1+1) (X:=X) (v:=GX A.length+1+1) (by show _=2 * s.mo.length+7+7;omega) rfl
     simp only [go_sem,↓reduceIte,hy]
     have hd:=A5t hs hz (m:Int) (-1) qb h6 h5 (a:=a) (X:=X) (by omega)
     have ha:=fun (Q:VV->Prop)=>Cg C t ht _ hd (Q:=Q)
     have eM:(Bo s m (-1)).mo=s.mo:=rfl
     simp only [eM] at ha ⊢
     cases hff:Bd t ⟨(Bo s m (-1)).has,(Bo s m (-1)).jf,s.mo.set loc (L.set a X)⟩ with
     | false =>
      rw [if_neg (by decide)]
      simp only [go_sem,↓reduceIte,p8,he,h0 1,h0 2,h0 6,S7,ha,hff]
      rfl
     | true =>
      rw [if_pos rfl]
      simp only [go_sem,↓reduceIte,p8,he,h0 1,h0 2,h0 6,S7,ha,hff]
      obtain ⟨q2,h9⟩:=Uq (f:=5) (d:=1) rfl h5 h6 c3 (some ⟨Ae,0,0,false,[S7 s (Bo s m (-1)) v1 v2]⟩) (some ⟨Ae,0,0,false,[S7 s (Bo s m (-1)) v1 v2]⟩) (some ⟨Ae,0,0,false,[[.sl 3 (GX s.has.length) 0 s.has.length,.sl 4 (GX s.jf.length) 0 s.jf.length,.sl 6 (Eo s.mo s.mo.length).length 0 (Eo s.mo s.mo.length).length]]⟩) (some (Qi AO 1 (s.has.map eI))) (some (Qi AO 1 (s.jf.map eI))) (some ⟨Ae,0,0,false,[[.sl 3 (GX s.has.length) 0 s.has.length,.sl 4 (GX s.jf.length) 0 s.jf.length,.sl 6 (Eo s.mo s.mo.length).length 0 (Eo s.mo s.mo.length).length]]⟩) (some (AX Bx 1 (Eo s.mo s.mo.length)))
       (Y:=[some ⟨Ae,0,0,false,[S7 s (Bo s m (-1)) v1 v2]⟩,some ⟨AO,1,v1,false,(Bo s m (-1)).has.map eI⟩,some ⟨AO,1,v2,false,(Bo s m (-1)).jf.map eI⟩,some Dh,some Dh,some Dh,some ⟨Ae,0,0,false,[S7 s (Bo s m (-1)) v1 v2]⟩,some ⟨AO,1,GX A.length+1+1,false,X.map eI⟩]) (idx:=7) (id:=2 * s.mo.length+7+1+1+1+1+1+1+1) (X:=X) (v:=GX A.length+1+1) (by show _=2 * s.mo.length+7+7;omega) rfl
      simp only [go_sem,↓reduceIte,h9]
      rfl
   .have e:i=C4 c m:=by omega
    obtain ⟨A,hA⟩:∃ A,A=c.take i:=⟨_,rfl⟩
    obtain ⟨B,hB⟩:∃ B,B=c.drop i:=⟨_,rfl⟩
    have lA:A.length=i:=by rw [hA,length_take];omega
    have lB:B.length=c.length - i:=by rw [hB,length_drop]
    have k1:i<=c.length:=by omega
    have b1:A.length * 8<=A8:=by unfold A8;omega
    have b2:(A.length+1) * 8<=A8:=by unfold A8;omega
    obtain rfl:B=[]:=List.length_eq_zero_iff.1 (by omega)
    have tB:List.take (c.length - i) ([]:List Int)=[]:=List.take_nil
    have b3:(A.length+1+0) * 8<=A8:=by unfold A8;omega
    obtain ⟨X,hX⟩:∃ X,X=A++[(m:Int)]:=⟨_,rfl⟩
    have lX:A.length+1=X.length:=by rw [hX];simp
    have b4:X.length * 8<=A8:=by rw [<- lX];exact b2
    have b5:(X.length+0) * 8<=A8:=b4
    have eX:X=CA c (C4 c m) m:=by rw [hX,CA,<- e,<- hA,<- hB]
    rw [<- eX]
    simp only [UD,go_sem,↓reduceIte,p2,p3,p4,p8,he,q3,q4,q5,ci,A0,joH,moE,cons_append,append_assoc,nil_append,hT,hk,hh,h5,hu,hq,hb,qa,hj 6,hj 7,hc 6,hc 7,qc,h0 1,h0 2,h0 6,h0 7,hv 6,hv 7,hl,q8,q7,q9,k1,<- hA,<- hB,tB,b1,b2,b3,b4,b5,lX,<- hX,c3,hx,length_append,length_map]
    obtain ⟨ids,hy⟩:=Uq (f:=6) (d:=2) rfl h5 h6 c3 (some ⟨Ae,0,0,false,[[.nl,.nl,.nl]]⟩) (some ⟨Ae,0,0,false,[S7 s (Bo s m (-1)) v1 v2]⟩) (some ⟨Ae,0,0,false,[[.sl 3 (GX s.has.length) 0 s.has.length,.sl 4 (GX s.jf.length) 0 s.jf.length,.sl 6 (Eo s.mo s.mo.length).length 0 (Eo s.mo s.mo.length).length]]⟩) (some (Qi AO 1 (s.has.map eI))) (some (Qi AO 1 (s.jf.map eI))) (some ⟨Ae,0,0,false,[[.sl 3 (GX s.has.length) 0 s.has.length,.sl 4 (GX s.jf.length) 0 s.jf.length,.sl 6 (Eo s.mo s.mo.length).length 0 (Eo s.mo s.mo.length).length]]⟩) (some (AX Bx 1 (Eo s.mo s.mo.length)))
     (Y:=[some ⟨Ae,0,0,false,[S7 s (Bo s m (-1)) v1 v2]⟩,some ⟨AO,1,v1,false,(Bo s m (-1)).has.map eI⟩,some ⟨AO,1,v2,false,(Bo s m (-1)).jf.map eI⟩,some Dh,some Dh,some Dh,some ⟨Ae,0,0,false,[S7 s (Bo s m (-1)) v1 v2]⟩,some ⟨AO,1,GX A.length+1,false,X.map eI⟩]) (idx:=7) (id:=2 * s.mo.length+7+1+1+1+1+1+1+1) (X:=X) (v:=GX A.length+1) (by show _=2 * s.mo.length+7+7;omega) rfl
    simp only [go_sem,↓reduceIte,hy]
    have hd:=A5t hs hz (m:Int) (-1) qb h6 h5 (a:=a) (X:=X) (by omega)
    have ha:=fun (Q:VV->Prop)=>Cg C t ht _ hd (Q:=Q)
    have eM:(Bo s m (-1)).mo=s.mo:=rfl
    simp only [eM] at ha ⊢
    cases hff:Bd t ⟨(Bo s m (-1)).has,(Bo s m (-1)).jf,s.mo.set loc (L.set a X)⟩ with
    | false =>
     rw [if_neg (by decide)]
     simp only [go_sem,↓reduceIte,p8,he,h0 1,h0 2,h0 6,S7,ha,hff]
     rfl
    | true =>
     rw [if_pos rfl]
     simp only [go_sem,↓reduceIte,p8,he,h0 1,h0 2,h0 6,S7,ha,hff]
     obtain ⟨q2,h9⟩:=Uq (f:=5) (d:=1) rfl h5 h6 c3 (some ⟨Ae,0,0,false,[S7 s (Bo s m (-1)) v1 v2]⟩) (some ⟨Ae,0,0,false,[S7 s (Bo s m (-1)) v1 v2]⟩) (some ⟨Ae,0,0,false,[[.sl 3 (GX s.has.length) 0 s.has.length,.sl 4 (GX s.jf.length) 0 s.jf.length,.sl 6 (Eo s.mo s.mo.length).length 0 (Eo s.mo s.mo.length).length]]⟩) (some (Qi AO 1 (s.has.map eI))) (some (Qi AO 1 (s.jf.map eI))) (some ⟨Ae,0,0,false,[[.sl 3 (GX s.has.length) 0 s.has.length,.sl 4 (GX s.jf.length) 0 s.jf.length,.sl 6 (Eo s.mo s.mo.length).length 0 (Eo s.mo s.mo.length).length]]⟩) (some (AX Bx 1 (Eo s.mo s.mo.length)))
      (Y:=[some ⟨Ae,0,0,false,[S7 s (Bo s m (-1)) v1 v2]⟩,some ⟨AO,1,v1,false,(Bo s m (-1)).has.map eI⟩,some ⟨AO,1,v2,false,(Bo s m (-1)).jf.map eI⟩,some Dh,some Dh,some Dh,some ⟨Ae,0,0,false,[S7 s (Bo s m (-1)) v1 v2]⟩,some ⟨AO,1,GX A.length+1,false,X.map eI⟩]) (idx:=7) (id:=2 * s.mo.length+7+1+1+1+1+1+1+1) (X:=X) (v:=GX A.length+1) (by show _=2 * s.mo.length+7+7;omega) rfl
     simp only [go_sem,↓reduceIte,h9]
     rfl
  .simp only [go_sem,↓reduceIte]
  .simp only [go_sem,↓reduceIte]
  .simp only [go_sem,↓reduceIte]
  .simp only [go_sem,↓reduceIte]
  .simp only [go_sem,↓reduceIte]
  .simp only [go_sem,↓reduceIte]
  .simp only [go_sem,↓reduceIte]
  .simp only [go_sem,↓reduceIte]
  .simp only [go_sem,↓reduceIte,joH,moE]
end
theorem GW.kind {t:A2}:∀ {n u e:Nat},GW t n u e->∀ m,u < m->m < e->(t.at m).kind=2\/(t.at m).kind=3\/(t.at m).kind=4:=by
 intro n
 induction n with
 | zero=>intro u e h;exact absurd h (by simp [GW])
 | succ n ih =>
  intro u e h m h1 h2
  obtain ⟨⟨_,ht,_⟩,h⟩:=h
  rcases h with ⟨_,_,rfl⟩ | ⟨c,_,_,al,hb⟩ | ⟨c,_,_,vals,k,loc,mode,_,_,hk0,hke,hloc,hs,_⟩
  .omega
  .by_cases e1:m=u+1
   .subst e1
    simp only [D5,Bool.or_eq_true,and_eq_true,decide_eq_true_eq] at al
    rcases al with h | h
    .exact .inr (.inr h.1.1.1.1.1)
    .exact .inr (.inl h.1.1.1)
   .exact ih hb m (by omega) h2
  .obtain ⟨v,hv,a,b⟩:=Df (k:=k) (m:=m) vals (by omega) (by omega)
   obtain ⟨s1,s2,s3⟩:=hs v hv
   by_cases e1:m=k v
   .subst e1
    simp only [E5,and_eq_true,decide_eq_true_eq] at s2
    exact .inl s2.1.1.1.1
   .exact ih s3 m (by omega) b
theorem A9.kind {t:A2} (h:A9 t) {m:Nat} (h2:m < t.nodes.length) (h3:0<=(t.at m).up):(t.at m).kind=2\/(t.at m).kind=3\/(t.at m).kind=4:=by
 by_cases c:m < t.locs.length
 .have:=(h.init m c).up;omega
 .obtain ⟨s,h0,he,hs⟩:=h.thr
  obtain ⟨v,hv,a,b⟩:=Df (k:=s) (m:=m) t.regs.length (by omega) (by omega)
  obtain ⟨hb,n,hn⟩:=hs v hv
  by_cases e1:m=s v
  .subst e1
   simp only [DT,and_eq_true,decide_eq_true_eq] at hb
   have:=hb.1.1.1.1.1.2
   omega
  .exact hn.kind m (by omega) b
structure Gr (t:A2) (s:A6) (k:Nat):Prop where
 big:Big t s k
 ok:∀ x∈s.has,BU t x=true
theorem Gr.sz {t:A2} (ht:A9 t) {s:A6} {k:Nat} (h:Gr t s k) (hk:k<=100):El s:=h.big.sz ht hk
theorem Gr.sz' {t:A2} {s:A6} {k:Nat} (h:Gr t s k) (hk:k<=100):s.has.length < 1000/\s.jf.length < 1000/\∀ l∈s.mo,∀ c∈l,c.length < 1000 :=
 ⟨by have:=h.big.has;omega,by have:=h.big.jf;omega,fun l hl c hc=>by have:=h.big.mc l hl c hc;omega⟩
theorem A0V {t:A2} (ht:A9 t):Gr t (BF t) 0:=by
 refine ⟨A8g ht,fun x hx=>?_⟩
 simp only [BF,DM,mem_map,List.mem_filter,List.mem_range] at hx
 obtain ⟨i,⟨hi,_⟩,rfl⟩:=hx
 exact Cl hi
theorem PU {t:A2} {s s':A6} {k:Nat} (h:Gr t s k) {n kind w:Int} (e:DJ t s n kind w=some s'):Gr t s' (k+1):=by
 unfold DJ at e
 split at e
 .rename_i h0
  cases e
  simp only [Ct,Bd,and_eq_true,decide_eq_true_eq] at h0
  refine ⟨Abv h.big h0.1.1.1.1.1.1.1.1.2 n w,?_⟩
  intro x hx
  simp only [Bo,CA,List.mem_append,mem_cons] at hx
  rcases hx with hx | rfl | hx
  .exact h.ok x (List.mem_of_mem_take hx)
  .exact h0.1.1.1.2
  .exact h.ok x (List.mem_of_mem_drop hx)
 .cases e
theorem AfD {t:A2} {s s':A6} {k:Nat} (h:Gr t s k) {n w:Int} (e:T8 t s n w=some s'):Gr t s' (k+1):=by
 unfold T8 at e
 split at e
 .rename_i x hx
  split at e
  .cases e;exact PU h hx
  .cases e
 .cases e
theorem AcL {t:A2} {s:A6} {k loc:Nat} (h:Gr t s (k+1)) {L:List (List Int)} (h0:L≠[]) (h1:L.length<=2+k) (h2:∀ c∈L,c.length<=2+k):Gr t { s with mo:=s.mo.set loc L } (k+1):=by
 refine ⟨⟨h.big.has,h.big.jf,by rw [length_set];exact h.big.mo,?_,?_⟩,h.ok⟩
 .intro l hl
  rcases List.mem_or_eq_of_mem_set hl with hl | rfl
  .exact h.big.mi l hl
  .exact ⟨h0,by omega⟩
 .intro l hl c hc
  rcases List.mem_or_eq_of_mem_set hl with hl | rfl
  .exact h.big.mc l hl c hc
  .have:=h2 c hc;omega
theorem Big.row {t:A2} {s:A6} {k:Nat} (h:Big t s k) (loc:Nat):(s.mo.getD loc []).length<=1+k/\∀ c∈s.mo.getD loc [],c.length<=1+k:=by
 by_cases hl:loc < s.mo.length
 .have:=Ac (d:=[]) hl
  exact ⟨(h.mi _ this).2,fun c hc=>h.mc _ this c hc⟩
 .rw [getD_eq_getElem?_getD,List.getElem?_eq_none (by omega)]
  simp
theorem A6f {t:A2} {s s':A6} {n kind w:Int} (e:DJ t s n kind w=some s'):s'.mo=s.mo:=by
 unfold DJ at e
 split at e
 .cases e;rfl
 .cases e
theorem A1a {t:A2} {s s':A6} {k:Nat} (h:Gr t s k) {n w:Int} (e:M7 t s n w=some s'):Gr t s' (k+1):=by
 unfold M7 at e
 split at e
 .rename_i x hx
  have hg:=PU h hx
  have hm:=A6f hx
  split at e
  .cases e
  .cases e
   have hr:=h.big.row (t.at n.toNat).loc.toNat
   rw [<- hm] at hr
   refine AcL hg (by simp) ?_ ?_
   .simp only [length_append,length_cons,length_take,length_drop];omega
   .intro c hc
    simp only [List.mem_append,mem_cons] at hc
    rcases hc with hc | rfl | hc
    .have:=hr.2 c (List.mem_of_mem_take hc);omega
    .simp;omega
    .have:=hr.2 c (List.mem_of_mem_drop hc);omega
 .cases e
theorem Ael {t:A2} {s s':A6} {k:Nat} (h:Gr t s k) {n w:Int} (e:SS t s n w=some s'):Gr t s' (k+1):=by
 unfold SS at e
 split at e
 .rename_i x hx
  have hg:=PU h hx
  have hm:=A6f hx
  simp only at e
  split at e
  .cases e
  .rename_i hw
   split at e
   .cases e
    have hr:=h.big.row (t.at n.toNat).loc.toNat
    rw [<- hm] at hr
    refine AcL hg ?_ ?_ ?_
    .intro h0
     have:=congrArg List.length h0
     rw [length_set] at this
     simp only [List.length_nil] at this
     omega
    .rw [length_set];omega
    .intro c hc
     rcases List.mem_or_eq_of_mem_set hc with hc | rfl
     .have:=hr.2 c hc;omega
     .have h1:=G9 ((x.mo.getD (t.at n.toNat).loc.toNat []).getD w.toNat []) n
      rw [GB h1]
      have:=hr.2 _ (Ac (d:=[]) (show w.toNat < (x.mo.getD (t.at n.toNat).loc.toNat []).length by omega))
      omega
   .cases e
 .cases e
def Er (t:A2) (s:A6) (i:Nat):Bool:=decide (0<=(t.at i).up) && B9 s.has (t.at i).up && !B9 s.has i
def Gy (t:A2) (s:A6) (k:Nat):List Int:=((List.range k).filter (Er t s)).map fun (i:Nat)=>(i:Int)
theorem Ae8 {t:A2} {s:A6} {k:Nat} (h:Er t s k=true):Gy t s (k+1)=Gy t s k++[(k:Int)]:=by
 unfold Gy
 rw [range_succ,filter_append,map_append]
 simp only [filter_cons,List.filter_nil,h,if_true,map_cons,map_nil]
theorem Up {t:A2} {s:A6} {k:Nat} (h:Er t s k=false):Gy t s (k+1)=Gy t s k:=by
 unfold Gy
 rw [range_succ,filter_append,map_append]
 simp [h]
theorem A7E {t:A2} {s:A6} (k:Nat):(Gy t s k).length<=k:=by
 unfold Gy
 rw [length_map]
 exact Nat.le_trans (List.length_filter_le _ _) (by simp)
theorem A7F {t:A2} {s:A6} {k:Nat} {x:Int} (h:x∈Gy t s k):∃ m:Nat,x=m/\m < k/\Er t s m=true:=by
 simp only [Gy,mem_map,List.mem_filter,List.mem_range] at h
 obtain ⟨i,⟨hi,h⟩,rfl⟩:=h
 exact ⟨i,rfl,hi,h⟩
def JY (t:A2) (n:Nat) (y:Int):Bool:=decide ((t.at y.toNat).kind=3) && decide ((t.at y.toNat).loc=(t.at n).loc) && decide ((t.at y.toNat).val=(t.at n).val)
theorem A6Z {l:List Int} {k:Nat} (hk:k < l.length):l.take (k+1)=l.take k++[l.getD k 0]:=by
 rw [List.take_succ_eq_append_getElem hk,getD_eq_getElem?_getD,List.getElem?_eq_getElem hk];rfl
def Sw (t:A2) (s:A6) (n k:Nat):List Int:=(s.has.take k).filter (JY t n)
theorem Ajy {t:A2} {s:A6} {n k:Nat} (hk:k < s.has.length) (h:JY t n (s.has.getD k 0)=true):Sw t s n (k+1)=Sw t s n k++[s.has.getD k 0]:=by
 unfold Sw
 rw [A6Z hk,filter_append]
 simp only [filter_cons,List.filter_nil,h,if_true,false_eq_true,if_false,append_nil]
theorem A4u {t:A2} {s:A6} {n k:Nat} (hk:k < s.has.length) (h:JY t n (s.has.getD k 0)=false):Sw t s n (k+1)=Sw t s n k:=by
 unfold Sw
 rw [A6Z hk,filter_append]
 simp only [filter_cons,List.filter_nil,h,if_true,false_eq_true,if_false,append_nil]
theorem AcN {t:A2} {s:A6} {n:Nat} (k:Nat):(Sw t s n k).length<=s.has.length:=by
 unfold Sw
 refine Nat.le_trans (List.length_filter_le _ _) ?_
 rw [length_take];omega
def K8 (t:A2) (s:A6) (a b:Nat):Option A6 :=
 let l:=Gy t s t.nodes.length
 if l.length=0 then none else
  let n:=l.getD (a % l.length) 0
  let x:=t.at n.toNat
  if x.kind=4 then DJ t s n 4 (-1) else
   if x.kind=2 then
    let w:=Sw t s n.toNat s.has.length
    if w.length=0 then none else T8 t s n (w.getD (b % w.length) 0)
   else
    let k:=(s.mo.getD x.loc.toNat []).length
    let o:=M7 t s n ((1+b / 3 % k:Nat):Int)
    if b % 3=0/\1 < k then (match SS t s n ((1+b / 3 % (k - 1):Nat):Int) with
     | some s'=>some s'
     | none=>o) else o
theorem Ye {t:A2} {s s':A6} {k a b:Nat} (h:Gr t s k) (e:K8 t s a b=some s'):Gr t s' (k+1):=by
 unfold K8 at e
 simp only at e
 split at e
 .cases e
 .split at e
  .exact PU h e
  .split at e
   .split at e
    .cases e
    .exact AfD h e
   .split at e
    .split at e
     .rename_i s2 hj
      cases e;exact Ael h hj
     .exact A1a h e
    .exact A1a h e
theorem Gr.mono {t:A2} {s:A6} {k j:Nat} (h:Gr t s k) (hk:k<=j):Gr t s j:=⟨h.big.mono hk,h.ok⟩
def NU (m:List U8) (i:Nat):Nat:=(m.getD i ⟨0⟩).n
theorem Aec {m:List U8} {i:Nat} (h:i < m.length):m[i]? = some ⟨NU m i⟩:=by
 rw [NU,getD_eq_getElem?_getD,List.getElem?_eq_getElem h];rfl
theorem TP {m:List U8} (hm:∀ x∈m,x.n < 256) (i:Nat):NU m i < 256:=by
 unfold NU
 rw [getD_eq_getElem?_getD]
 cases h:m[i]? with
 | none=>decide
 | some x=>exact hm x (List.mem_of_getElem? h)
def Gz (t:A2) (m:List U8):Nat->A6
 | 0=>BF t
 | k+1=>(match K8 t (Gz t m k) (NU m (2 * k)) (NU m (2 * k+1)) with
  | some s=>s
  | none=>Gz t m k)
theorem SQ {t:A2} {m:List U8} {k:Nat} {s:A6} (e:K8 t (Gz t m k) (NU m (2 * k)) (NU m (2 * k+1))=some s):Gz t m (k+1)=s:=by rw [Gz,e]
theorem SP {t:A2} {m:List U8} {k:Nat} (e:K8 t (Gz t m k) (NU m (2 * k)) (NU m (2 * k+1))=none):Gz t m (k+1)=Gz t m k:=by rw [Gz,e]
theorem Uu {t:A2} (ht:A9 t) (m:List U8):∀ k,Gr t (Gz t m k) k
 | 0=>A0V ht
 | k+1=>by
  have h:=Uu ht m k
  cases e:K8 t (Gz t m k) (NU m (2 * k)) (NU m (2 * k+1)) with
  | some s=>rw [SQ e];exact Ye h e
  | none=>rw [SP e];exact h.mono (by omega)
section
variable {V:Am} (C:Ap V) {Q:VV->Prop}
include C
theorem A07 (t:A2) (ht:A9 t) (s:A6) (hs:El s):VP V AbT [vT t,Eu s] Q↔Q (lI (Gy t s t.nodes.length)):=by
 refine Ad ?_
 rw [Ab C.c_z58.1 C.c_z58.2]
 have h1:=ht.n64
 have h2:=hs.has
 simp only [Agm,go_sem,↓reduceIte]
 refine Aa (by decide) t.nodes.length (by omega) (I:=fun k F h=>A3.tmp F 2 = .fp (eT t) 0/\A3.tmp F 3 = .fp (EX s) 0/\∃ L,L=Gy t s k/\A3.tmp F 5 = .sl 0 L.length 0 L.length/\h=[some (AX AO 1 (L.map eI))]) ?_ ?_ ?_ 0 _ _ (zero_le _) ?_ ?_
 .rintro k F h hk p6 ⟨p2,p3,L,hL,p5,rfl⟩
  simp only [go_sem,↓reduceIte,p2,p3,p5,p6]
  exact ⟨L,hL,rfl,rfl⟩
 .rintro k F h hk p6 ⟨p2,p3,L,hL,p5,rfl⟩
  have h0:=A7E (t:=t) (s:=s) k
  have w1:=Ea s.has (t.at k).up
  have w2:=C7 s.has (k:Int)
  have b1:(L.length+1) * 8<=A8:=by rw [<- hL] at h0;unfold A8;omega
  cases c1:decide (0<=(t.at k).up) with
  | false =>
   have e:Er t s k=false:=by simp [Er,c1]
   simp only [go_sem,↓reduceIte,p2,p3,p5,p6,hk,A5 hk,c1,A0]
   exact ⟨L,by rw [Up e];exact hL,rfl,rfl⟩
  | true =>
  cases c2:B9 s.has (t.at k).up with
  | false =>
   rw [c2] at w1
   have e:Er t s k=false:=by simp [Er,c2]
   simp only [go_sem,↓reduceIte,p2,p3,p5,p6,hk,A5 hk,c1,Ai C s.has (by omega),w1,A0]
   exact ⟨L,by rw [Up e];exact hL,rfl,rfl⟩
  | true =>
  rw [c2] at w1
  cases c3:B9 s.has (k:Int) with
  | true =>
   rw [c3] at w2
   have e:Er t s k=false:=by simp [Er,c3]
   simp only [go_sem,↓reduceIte,p2,p3,p5,p6,hk,A5 hk,c1,Ai C s.has (by omega),w1,w2,A0]
   exact ⟨L,by rw [Up e];exact hL,rfl,rfl⟩
  | false =>
   rw [c3] at w2
   have e:Er t s k=true:=by simp only [Er,c1,c2,c3];rfl
   simp only [go_sem,↓reduceIte,p2,p3,p5,p6,hk,A5 hk,c1,Ai C s.has (by omega),w1,w2,A0,b1,D2,length_append,length_map]
   exact ⟨L++[(k:Int)],by rw [Ae8 e,hL],by simp,rfl⟩
 .rintro F h ⟨p2,p3,L,hL,p5,rfl⟩
  subst hL
  simp only [go_sem,↓reduceIte,p2,p3,p5,length_map]
 .simp only [go_sem,↓reduceIte]
 .simp only [go_sem,↓reduceIte]
  exact ⟨[],rfl,rfl,rfl⟩
end
end Go.AM
