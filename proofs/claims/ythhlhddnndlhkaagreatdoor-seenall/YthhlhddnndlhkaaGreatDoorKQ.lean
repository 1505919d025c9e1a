/-
  Own work, part of the proof of these laws: what functions compute.
-/
import Derived.Test.YthhlhddnndlhkaaGreatDoorKE
import Derived.Test.YthhlhddnndlhkaaGreatDoorLD
import Derived.Test.YthhlhddnndlhkaaGreatDoorKP
set_option maxRecDepth 10000
set_option maxHeartbeats 64000000
set_option linter.unusedVariables false
set_option linter.unusedSimpArgs false
set_option linter.unusedSectionVars false
namespace Go.AM
open Go Go.Proofs
def AaY (t:A1) (s:A6) (k:Nat):BitVec 64:=BS fun i=>decide (i < k) && (AU s.has (i:Int) && Es t s i)
theorem AiG {t:A1} (ht:A5 t) {s:A6} (hf:AG t s):AaY t s t.nodes.length=DH t s:=by
 apply B1
 intro j hj
 rw [AaY,Au,Bool.eq_iff_iff,KF ht hf]
 simp only [Bool.and_eq_true,decide_eq_true_eq,A9]
 constructor
 .rintro ⟨⟨_,h1,h2⟩,_⟩;exact ⟨h1,h2⟩
 .rintro ⟨h1,h2⟩
  obtain ⟨m,e,hm⟩:=A8 (hf.node _ h1)
  exact ⟨⟨by omega,h1,h2⟩,hj⟩
section
variable {V:At} (C:Aq V)
include C
theorem law_SeenAll (hb:∀ Q:VV->Prop,VP V JT [] Q↔Q (.b true)) (l m:List U8) (right:Bool) (e:Int) (hl:∀ x∈l,x.n < 256) (hm:∀ x∈m,x.n < 256) :
  VP V Af9 [lU l,lU m,.b right,.i .i64 e] fun x=>x = .b true:=by
 rw [Ad C.c_z0.1 C.c_z0.2]
 by_cases c1:(30:Int) < l.length
 .simp only [A8R,go_sem,↓reduceIte,hb,c1]
 by_cases c2:(40:Int) < m.length
 .simp only [A8R,go_sem,↓reduceIte,hb,c1,c2]
 obtain ⟨_,⟨t,ok,rfl,ht⟩,qT⟩:=Cr (BY C l ⟨by omega,hl⟩)
 cases ok with
 | false=>simp only [A8R,go_sem,↓reduceIte,hb,c1,c2,qT]
 | true =>
 have ht:=(ht rfl).1
 have h64:=ht.n64
 obtain ⟨s,hf,hz,qG⟩:∃ s,AG t s/\DL s/\∀ Q:VV->Prop,VP V Pe [vT t,lU m,.b right] Q↔Q (Dy s):=by
  cases right with
  | true=>exact ⟨_,La ht m _,(N3 ht m _).sz ht (by omega),fun Q=>Hd C t ht m (by omega) hm⟩
  | false=>exact ⟨_,Co ht m _,(Ec ht m _).sz ht (by omega),fun Q=>Cb C t ht m (by omega) hm⟩
 have ok:=GV hf ht
 have g1:=hz.has
 have hel:(Ej t s).length=t.nodes.length:=Aj
 have qSn:=fun (e:Int) (Q:VV->Prop)=>Ee C t ht s hz hf e (Q:=Q)
 have qVs:=fun (e:Int) (Q:VV->Prop)=>Gt C t ht s hz hf ok e (Q:=Q)
 have rSn:=fun (e:Int) (Q:VV->Prop)=>A2P C t ht s hz hf e (Q:=Q)
 have rVs:=fun (e:Int) (Q:VV->Prop)=>LP C t ht s hz hf e (Q:=Q)
 have qEc:=fun (Q:VV->Prop)=>Jx C t ht s hz hf (Q:=Q)
 have rEc:=fun (Q:VV->Prop)=>Aay C t ht s hz hf (Q:=Q)
 have qSm:=fun (Q:VV->Prop)=>A1Q C (Ej t s) (by omega) (Q:=Q)
 have qSe:=fun (Q:VV->Prop)=>K2 C t ht s hz hf ok (Q:=Q)
 simp only [A8R,go_sem,↓reduceIte,hb,c1,c2,qT,qG]
 refine Ab (by decide) t.nodes.length (by omega) (I:=fun i F h=>A4.tmp F 3 = .i .i64 e/\A4.tmp F 9 = .p 0 0 0 0/\A4.tmp F 11 = .p 1 0 0 0/\A4.tmp F 12=vW (AaY t s i)/\h=tsH t s) ?_ ?_ ?_ 0 _ _ (Nat.zero_le _) ?_ ?_
 .rintro i F h hi p13 ⟨p3,p9,p11,p12,rfl⟩
  simp only [go_sem,↓reduceIte,p13,p3,p9,p11,p12]
 .rintro i F h hi p13 ⟨p3,p9,p11,p12,rfl⟩
  cases a:(AU s.has (i:Int) && Es t s i) with
  | false =>
   have e1:AaY t s (i+1)=AaY t s i:=(Xf (fun i=>AU s.has (i:Int) && Es t s i) a).symm
   simp only [go_sem,↓reduceIte,p13,p3,p9,p11,p12,rVs,qSn,rSn,qVs,Int.toNat_natCast,a,beq_self_eq_true,Bool.not_true,A0,e1]
  | true =>
   have e1:AaY t s i ||| C4 (i:Int)=AaY t s (i+1):=Xg (by omega) (fun i=>AU s.has (i:Int) && Es t s i) a
   simp only [go_sem,↓reduceIte,p13,p3,p9,p11,p12,rVs,qSn,rSn,qVs,Int.toNat_natCast,a,beq_self_eq_true,Bool.not_true,A0,Bi C,e1]
 .rintro F h ⟨p3,p9,p11,p12,rfl⟩
  rw [AiG ht hf] at p12
  simp only [go_sem,↓reduceIte,p3,p9,p11,p12,qEc,rEc,qSm,qSe,qSn,rSn,qVs,rVs,beq_self_eq_true]
 .simp only [go_sem,↓reduceIte]
 .simp only [go_sem,↓reduceIte]
  rw [AaY,Xh (fun i=>AU s.has (i:Int) && Es t s i)]
end
end Go.AM
