/-
  Own work, part of the proof of these laws: what functions compute.
-/
import Derived.Test.YthhlhddnndlhkaaGreatDoorKFd
set_option maxRecDepth 10000
set_option maxHeartbeats 64000000
set_option linter.unusedVariables false
set_option linter.unusedSimpArgs false
set_option linter.unusedSectionVars false
namespace Go.AM
open Go Go.Proofs
section
variable {V:At} (C:Aq V) {Q:VV->Prop}
include C
theorem XY {n:Nat} (hn:n<=64):VP V A5k [lW (Ak n fun _ _=>false)] Q↔Q (.i .i64 0):=by
 refine Ae ?_
 rw [Ad C.c_z31.1 C.c_z31.2]
 have hm:=CH hn fun _ _=>false
 have h0:=Aj (n:=n) (p:=fun _ _=>false)
 have hz:(Ca 0#64).length=0:=by
  have:Ca 0#64=[]:=by
   unfold Ca
   rw [List.filter_eq_nil_iff]
   intro j _
   simp
  rw [this];rfl
 simp only [A93,go_sem,↓reduceIte,Ce C,hm,h0]
 refine Ag (by decide) n (by omega) (I:=fun k F h=>A4.tmp F 3 = .i .i64 0/\A4.tmp F 9=lW (Ak n fun _ _=>false)/\h=[]) ?_ ?_ 0 _ _ (by omega) ?_ ?_ ?_
 .rintro k F h hk h2 h1 ⟨p3,p9,rfl⟩
  have g:=Bm (n:=n) (p:=fun _ _=>false) hk
  rw [show (BS fun b=>decide (b < n) && false)=0#64 from B1 fun j _=>by rw [Au];simp] at g
  simp only [go_sem,↓reduceIte,h2,h1,p3,p9,g,hk,KS C,hz,A0]
  exact Az (by decide) (by decide)
 .rintro F h ⟨p3,p9,rfl⟩
  simp only [go_sem,↓reduceIte,p3,p9]
 .simp only [go_sem,↓reduceIte]
 .simp only [go_sem,↓reduceIte]
 .simp only [go_sem,↓reduceIte]
end
abbrev tsH (t:A1) (s:A6):VH:=[some ⟨Pu,0,0,false,[eT t]⟩,some ⟨Af,0,0,false,[Je s]⟩]
end Go.AM
