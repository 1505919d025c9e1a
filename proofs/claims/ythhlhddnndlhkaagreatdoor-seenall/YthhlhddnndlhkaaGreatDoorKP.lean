/-
  Own work, part of the proof of these laws: what functions compute.
-/
import Derived.Test.YthhlhddnndlhkaaGreatDoorKN
set_option maxRecDepth 10000
set_option maxHeartbeats 64000000
set_option linter.unusedVariables false
set_option linter.unusedSimpArgs false
set_option linter.unusedSectionVars false
namespace Go.AM
open Go Go.Proofs
section
variable {V:At} (C:Aq V) {Q:VV->Prop}
include C
theorem A2P (t:A1) (ht:A5 t) (s:A6) (hs:DL s) (hf:AG t s) (e:Int):VP V A59 [vT t,Dy s,.i .i64 e] Q↔Q (.b (AU s.has e && Ef t s e.toNat)):=by
 refine Ae ?_
 rw [Ad C.c_z17.1 C.c_z17.2]
 have h64:=ht.n64
 have g1:=hs.has
 have hff:=AE.2 hf
 have hfm:=fun (Q:VV->Prop)=>Bv C t ht s hs (Q:=Q)
 have hw:=fun (Q:VV->Prop)=>Ao C s.has (by omega) e (Q:=Q)
 have hlt:=Cg s.has e
 have hhb:=fun (Q:VV->Prop)=>Qr C t ht s.has s.jf hs.has hs.jf (AJ hff) (Q:=Q)
 rw [hbF,if_pos (AJ hff)] at hhb
 have hl:(JP t s.has s.jf).length=t.nodes.length:=Dh h64 _
 have hpa:=fun (e:Nat) (he:e < t.nodes.length) (Q:VV->Prop)=>Lt C (JP t s.has s.jf) (by omega) e (by omega) (Q:=Q)
 have hpz:∀ e,(Mx (JP t s.has s.jf) e).length<=1000:=fun e=>by
  have:=ND (JP t s.has s.jf) e (JP t s.has s.jf).length
  rw [Mx,List.length_cons];omega
 have hfi:=fun (a b:Nat) (ha:a < t.nodes.length) (hb:b < t.nodes.length) (Q:VV->Prop)=>(Kk C t ht.up _ _ (hpz a) (hpz b) (Q:=Q)).trans (by rw [A14 ht ha hb])
 cases c:AU s.has e with
 | false =>
  rw [c] at hlt
  simp only [A3m,go_sem,↓reduceIte,hfm,hff,hw,hlt,Bool.false_and]
 | true =>
  rw [c] at hlt
  obtain ⟨m,rfl,hm⟩:=A8 (hf.node _ (A9.1 c))
  have hpx:=hpa m hm
  have hfx:=hfi m m hm hm
  rw [Int.toNat_natCast,Bool.true_and,Ef]
  simp only [A3m,go_sem,↓reduceIte,hfm,hff,hw,hlt,hhb,hpx,hfx]
theorem LP (t:A1) (ht:A5 t) (s:A6) (hs:DL s) (hf:AG t s) (e:Int):VP V A57 [vT t,Dy s,.i .i64 e] Q↔Q (.b (AU s.has e && Es t s e.toNat)):=by
 refine Ae ?_
 rw [Ad C.c_z15.1 C.c_z15.2]
 have g1:=hs.has
 have hff:=AE.2 hf
 have hfm:=fun (Q:VV->Prop)=>Bv C t ht s hs (Q:=Q)
 have hw:=fun (Q:VV->Prop)=>Ao C s.has (by omega) e (Q:=Q)
 have hge:=EB s.has e
 have hlt:=Cg s.has e
 cases c:AU s.has e with
 | false =>
  rw [c] at hlt hge
  simp only [A3l,go_sem,↓reduceIte,hfm,hff,hw,hlt,hge,Bool.false_and]
 | true =>
  rw [c] at hlt hge
  obtain ⟨m,rfl,hm⟩:=A8 (hf.node _ (A9.1 c))
  have hv:=fun (Q:VV->Prop)=>LQ C t ht s hs hf (A9.1 c) (Q:=Q)
  rw [A2n ht hf (A9.1 c)] at hv
  rw [Int.toNat_natCast,Bool.true_and]
  simp only [A3l,go_sem,↓reduceIte,hfm,hff,hw,hlt,hge,hv]
end
def eqP (E:Nat->Nat->Bool) (l:List Int) (i k a b:Nat):Bool:=(((List.range i).any fun j=>decide (l.getD j 0=(a:Int))) && AU l (b:Int) && E a b) || (decide (l.getD i 0=(a:Int)) && ((List.range k).any fun j=>decide (l.getD j 0=(b:Int))) && E a b)
theorem Ah8 {E:Nat->Nat->Bool} {l:List Int} {i:Nat}:(fun a b=>eqP E l i l.length a b)=fun a b=>eqP E l (i+1) 0 a b:=by
 funext a b
 simp only [eqP,Yv,List.range_succ,List.range_zero,List.any_append,List.any_cons,List.any_nil,Bool.or_false,Bool.and_false,Bool.false_and]
 cases ((List.range i).any fun j=>decide (l.getD j 0=(a:Int)))<;>cases decide (l.getD i 0=(a:Int))<;>simp
theorem AjG {E:Nat->Nat->Bool} {l:List Int} {i k x y:Nat} (hx:l.getD i 0=x) (hy:l.getD k 0=y) (h:E x y=true):(fun a b=>eqP E l i k a b || (decide (a=x) && decide (b=y)))=eqP E l i (k+1):=by
 funext a b
 simp only [eqP,List.range_succ,List.any_append,List.any_cons,List.any_nil,Bool.or_false,hx,hy]
 by_cases c1:a=x
 .by_cases c2:b=y
  .subst c1 c2;simp [h]
  .have e:decide ((y:Int)=(b:Int))=false:=decide_eq_false (by omega)
   rw [e,decide_eq_false c2,Bool.or_false,Bool.and_false,Bool.or_false]
 .have e:decide ((x:Int)=(a:Int))=false:=decide_eq_false (by omega)
  rw [e,decide_eq_false c1];simp
theorem AnB {E:Nat->Nat->Bool} {l:List Int} {i k x y:Nat} (hx:l.getD i 0=x) (hy:l.getD k 0=y) (h:E x y=false):eqP E l i (k+1)=eqP E l i k:=by
 funext a b
 simp only [eqP,List.range_succ,List.any_append,List.any_cons,List.any_nil,Bool.or_false,hx,hy]
 by_cases c1:a=x
 .by_cases c2:b=y
  .subst c1 c2;simp [h]
  .have e:decide ((y:Int)=(b:Int))=false:=decide_eq_false (by omega)
   rw [e,Bool.or_false]
 .have e:decide ((x:Int)=(a:Int))=false:=decide_eq_false (by omega)
  rw [e];simp
section
variable {V:At} (C:Aq V) {Q:VV->Prop}
include C
theorem A1Q (r:Rows) (hl:r.length<=64):VP V A5c [lW r,lW r] Q↔Q (.b true):=by
 refine Ae ?_
 rw [Ad C.c_z20.1 C.c_z20.2]
 simp only [A8W,go_sem,↓reduceIte]
 refine Ab (by decide) r.length (by omega) (I:=fun k F h=>h=[]/\A4.tmp F 0=lW r/\A4.tmp F 1=lW r) ?_ ?_ ?_ 0 _ _ (Nat.zero_le _) ?_ ?_
 .rintro k F h hk p5 ⟨rfl,p0,p1⟩
  simp only [go_sem,↓reduceIte,p5,p0,p1]
 .rintro k F h hk p5 ⟨rfl,p0,p1⟩
  simp only [go_sem,↓reduceIte,p5,p0,p1,hk,B9 hk,A0]
 .rintro F h ⟨rfl,p0,p1⟩
  simp only [go_sem,↓reduceIte,p0,p1]
 .simp only [go_sem,↓reduceIte]
 .simp only [go_sem,↓reduceIte]
theorem Aay (t:A1) (ht:A5 t) (s:A6) (hs:DL s) (hf:AG t s):VP V A5e [vT t,Dy s] Q↔Q (lW (Ej t s)):=by
 refine Ae ?_
 rw [Ad C.c_z22.1 C.c_z22.2]
 have h64:=ht.n64
 have g1:=hs.has
 have hff:=AE.2 hf
 have hfm:=fun (Q:VV->Prop)=>Bv C t ht s hs (Q:=Q)
 have hhb:=fun (Q:VV->Prop)=>Qr C t ht s.has s.jf hs.has hs.jf (AJ hff) (Q:=Q)
 rw [hbF,if_pos (AJ hff)] at hhb
 have hl:(JP t s.has s.jf).length=t.nodes.length:=Dh h64 _
 have hpa:=fun (e:Nat) (he:e < t.nodes.length) (Q:VV->Prop)=>Lt C (JP t s.has s.jf) (by omega) e (by omega) (Q:=Q)
 have hpz:∀ e,(Mx (JP t s.has s.jf) e).length<=1000:=fun e=>by
  have:=ND (JP t s.has s.jf) e (JP t s.has s.jf).length
  rw [Mx,List.length_cons];omega
 have hfi:=fun (a b:Nat) (ha:a < t.nodes.length) (hb:b < t.nodes.length) (Q:VV->Prop)=>(Kk C t ht.up _ _ (hpz a) (hpz b) (Q:=Q)).trans (by rw [A14 ht ha hb])
 have b1:t.nodes.length * 8<=Aa:=by unfold Aa;omega
 have node:∀ i,i < s.has.length->∃ m:Nat,s.has.getD i 0=m/\m < t.nodes.length:=fun i hi=>A8 (hf.node _ (Ai (d:=0) hi))
 have hWB:Ak t.nodes.length (eqP (BR t s) s.has s.has.length 0)=Ej t s:=Ci fun a b _ _=>by
  simp only [eqP,Yv,List.range_zero,List.any_nil,Bool.and_false,Bool.false_and,Bool.or_false]
 simp only [A8Y,go_sem,↓reduceIte,hfm,hff,hhb,b1,Int.le_refl]
 refine Ab (by decide) s.has.length (by omega) (I:=fun i F h=>A4.tmp F 2 = .fp (eT t) 0/\A4.tmp F 3 = .fp (Je s) 0/\A4.tmp F 5=lW (JP t s.has s.jf)/\A4.tmp F 6 = .sl 0 0 0 t.nodes.length/\h=[some ⟨AK,1,0,false,(Ak t.nodes.length (eqP (BR t s) s.has i 0)).map eW⟩]) ?_ ?_ ?_ 0 _ _ (Nat.zero_le _) ?_ ?_
 .rintro i F h hi p7 ⟨p2,p3,p5,p6,rfl⟩
  simp only [go_sem,↓reduceIte,p7,p2,p3,p5,p6]
 .rintro i F h hi p7 ⟨p2,p3,p5,p6,rfl⟩
  obtain ⟨x,hx,hxl⟩:=node i hi
  have gX:=Ar hi
  rw [hx] at gX
  simp only [go_sem,↓reduceIte,p7,p2,p3,p5,p6,A0]
  refine Ab (by decide) s.has.length (by omega) (I:=fun k F h=>A4.tmp F 7 = .i .i64 i/\A4.tmp F 2 = .fp (eT t) 0/\A4.tmp F 3 = .fp (Je s) 0/\A4.tmp F 5=lW (JP t s.has s.jf)/\A4.tmp F 6 = .sl 0 0 0 t.nodes.length/\h=[some ⟨AK,1,0,false,(Ak t.nodes.length (eqP (BR t s) s.has i k)).map eW⟩]) ?_ ?_ ?_ 0 _ _ (Nat.zero_le _) ?_ ?_
  .rintro k F h hk q8 ⟨q7,q2,q3,q5,q6,rfl⟩
   simp only [go_sem,↓reduceIte,q8,q7,q2,q3,q5,q6]
  .rintro k F h hk q8 ⟨q7,q2,q3,q5,q6,rfl⟩
   obtain ⟨y,hy,hyl⟩:=node k hk
   have gY:=Ar hk
   rw [hy] at gY
   have gW:=B9 (a:=Ak t.nodes.length (eqP (BR t s) s.has i k)) (i:=x) (by rw [Aj];exact hxl)
   have hput:=Jv h64 (eqP (BR t s) s.has i k) hyl hxl
   have hset:∀ w,((Ak t.nodes.length (eqP (BR t s) s.has i k)).map eW).set x [vW w]=((Ak t.nodes.length (eqP (BR t s) s.has i k)).set x w).map eW:=fun w=>by rw [List.map_set]
   have hpx:=hpa x hxl
   have hpy:=hpa y hyl
   have hfx:=hfi x y hxl hyl
   cases d:BR t s x y with
   | true =>
    rw [d] at hfx
    rw [AjG hx hy d] at hput
    simp only [go_sem,↓reduceIte,q8,q7,q2,q3,q5,q6,gX,gY,hi,hk,hpx,hpy,hfx,hxl,gW,Bi C,hset,hput,Aj,List.length_map,A0]
   | false =>
    rw [d] at hfx
    rw [AnB hx hy d]
    simp only [go_sem,↓reduceIte,q8,q7,q2,q3,q5,q6,gX,gY,hi,hk,hpx,hpy,hfx,A0]
  .rintro F h ⟨q7,q2,q3,q5,q6,rfl⟩
   have hnx:Ak t.nodes.length (eqP (BR t s) s.has i s.has.length)=Ak t.nodes.length (eqP (BR t s) s.has (i+1) 0):=congrArg _ Ah8
   simp only [go_sem,↓reduceIte,q7,q2,q3,q5,q6,hnx]
  .simp only [go_sem,↓reduceIte]
  .simp only [go_sem,↓reduceIte,p7,p2,p3,p5,p6]
 .rintro F h ⟨p2,p3,p5,p6,rfl⟩
  rw [hWB]
  have hel:(Ej t s).length=t.nodes.length:=Aj
  simp only [go_sem,↓reduceIte,p6,hel,List.length_map,List.take_of_length_le (Nat.le_of_eq hel)]
 .simp only [go_sem,↓reduceIte]
 .simp only [go_sem,↓reduceIte]
  rw [show Ak t.nodes.length (eqP (BR t s) s.has 0 0)=Ak t.nodes.length fun _ _=>false from Ci fun a b _ _=>by simp [eqP],J7]
end
abbrev tsH (t:A1) (s:A6):VH:=[some ⟨Pu,0,0,false,[eT t]⟩,some ⟨Af,0,0,false,[Je s]⟩]
end Go.AM
