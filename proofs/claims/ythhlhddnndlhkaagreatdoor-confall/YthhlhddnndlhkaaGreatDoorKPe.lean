/-
  Own work, part of the proof of these laws: what functions compute.
-/
import Derived.Test.YthhlhddnndlhkaaGreatDoorLCe
set_option maxRecDepth 10000
set_option maxHeartbeats 64000000
set_option linter.unusedVariables false
set_option linter.unusedSimpArgs false
set_option linter.unusedSectionVars false
namespace Go.AM
open Go Go.Proofs
section
variable {V:At} (C:Aq V) {Q:VV->Prop}
include C
theorem LP (t:A1) (ht:A5 t) (s:A6) (hs:DL s) (hf:AG t s) (e:Int):VP V A57 [vT t,Dy s,.i .i64 e] Q↔Q (.b (AU s.has e && Es t s e.toNat)):=by
 refine Ae ?_
 rw [Ad C.c_z15.1 C.c_z15.2]
 have g1:=hs.has
 have h2:=AE.2 hf
 have h3:=fun (Q:VV->Prop)=>Bv C t ht s hs (Q:=Q)
 have hw:=fun (Q:VV->Prop)=>Ao C s.has (by omega) e (Q:=Q)
 have h0:=EB s.has e
 have h1:=Cg s.has e
 cases c:AU s.has e with
 | false =>
  rw [c] at h1 h0
  simp only [A3l,go_sem,↓reduceIte,h3,h2,hw,h1,h0,Bool.false_and]
 | true =>
  rw [c] at h1 h0
  obtain ⟨m,rfl,hm⟩:=A8 (hf.node _ (A9.1 c))
  have hv:=fun (Q:VV->Prop)=>LQ C t ht s hs hf (A9.1 c) (Q:=Q)
  rw [A2n ht hf (A9.1 c)] at hv
  rw [Int.toNat_natCast,Bool.true_and]
  simp only [A3l,go_sem,↓reduceIte,h3,h2,hw,h1,h0,hv]
end
abbrev tsH (t:A1) (s:A6):VH:=[some ⟨Pu,0,0,false,[eT t]⟩,some ⟨Af,0,0,false,[Je s]⟩]
end Go.AM
