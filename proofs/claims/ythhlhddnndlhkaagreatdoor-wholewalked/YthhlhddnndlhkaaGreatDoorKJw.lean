/-
  Own work, part of the proof of these laws: what functions compute.
-/
import Derived.Test.YthhlhddnndlhkaaGreatDoorKIw
set_option maxRecDepth 10000
set_option maxHeartbeats 64000000
set_option linter.unusedVariables false
set_option linter.unusedSimpArgs false
set_option linter.unusedSectionVars false
namespace Go.AM
open Go Go.Proofs
theorem NR.mono {V:At} {g:Nat} {args:List VV} {h:VH} {Q Q':VV->VH->Prop} (k:NR V g args h Q) (i:∀ v h',Q v h'->Q' v h'):NR V g args h Q':=by
 obtain ⟨vf,e,hb⟩:=k
 exact ⟨vf,e,hb.mono i⟩
theorem GL.kind {t:A1}:∀ {n u e:Nat},GL t n u e->∀ m,u < m->m < e->(t.at m).kind=2\/(t.at m).kind=3\/(t.at m).kind=4:=by
 intro n
 induction n with
 | zero=>intro u e h;exact absurd h (by simp [GL])
 | succ n ih =>
  intro u e h m h1 h2
  obtain ⟨⟨_,ht,_⟩,h⟩:=h
  rcases h with ⟨_,_,rfl⟩ | ⟨c,_,_,al,hb⟩ | ⟨c,_,_,vals,k,loc,mode,_,_,hk0,hke,hloc,hs,_⟩
  .omega
  .by_cases e1:m=u+1
   .subst e1
    simp only [Do,Bool.or_eq_true,Bool.and_eq_true,decide_eq_true_eq] at al
    rcases al with h | h
    .exact .inr (.inr h.1.1.1.1.1)
    .exact .inr (.inl h.1.1.1)
   .exact ih hb m (by omega) h2
  .obtain ⟨v,hv,a,b⟩:=Cx (k:=k) (m:=m) vals (by omega) (by omega)
   obtain ⟨s1,s2,s3⟩:=hs v hv
   by_cases e1:m=k v
   .subst e1
    simp only [EJ,Bool.and_eq_true,decide_eq_true_eq] at s2
    exact .inl s2.1.1.1.1
   .exact ih s3 m (by omega) b
theorem A5.kind {t:A1} (h:A5 t) {m:Nat} (h2:m < t.nodes.length) (h3:0<=(t.at m).up):(t.at m).kind=2\/(t.at m).kind=3\/(t.at m).kind=4:=by
 by_cases c:m < t.locs.length
 .have:=(h.init m c).up;omega
 .obtain ⟨s,h0,he,hs⟩:=h.thr
  obtain ⟨v,hv,a,b⟩:=Cx (k:=s) (m:=m) t.regs.length (by omega) (by omega)
  obtain ⟨hb,n,hn⟩:=hs v hv
  by_cases e1:m=s v
  .subst e1
   simp only [Eu,Bool.and_eq_true,decide_eq_true_eq] at hb
   have:=hb.1.1.1.1.1.2
   omega
  .exact hn.kind m (by omega) b
structure Gr (t:A1) (s:A6) (k:Nat):Prop where
 big:Big t s k
 ok:∀ x∈s.has,BP t x=true
theorem Gr.sz {t:A1} (ht:A5 t) {s:A6} {k:Nat} (h:Gr t s k) (hk:k<=100):DL s:=h.big.sz ht hk
theorem Gr.sz' {t:A1} {s:A6} {k:Nat} (h:Gr t s k) (hk:k<=100):s.has.length < 1000/\s.jf.length < 1000/\∀ l∈s.mo,∀ c∈l,c.length < 1000 :=
 ⟨by have:=h.big.has;omega,by have:=h.big.jf;omega,fun l hl c hc=>by have:=h.big.mc l hl c hc;omega⟩
theorem A29 {t:A1} (ht:A5 t):Gr t (Bu t) 0:=by
 refine ⟨AfB ht,fun x hx=>?_⟩
 simp only [Bu,EX,List.mem_map,List.mem_filter,List.mem_range] at hx
 obtain ⟨i,⟨hi,_⟩,rfl⟩:=hx
 exact BM hi
theorem NC {t:A1} {s s':A6} {k:Nat} (h:Gr t s k) {n kind w:Int} (e:D6 t s n kind w=some s'):Gr t s' (k+1):=by
 unfold D6 at e
 split at e
 .rename_i hok
  cases e
  simp only [Cy,Bd,Bool.and_eq_true,decide_eq_true_eq] at hok
  refine ⟨AhK h.big hok.1.1.1.1.1.1.1.1.2 n w,?_⟩
  intro x hx
  simp only [B6,Bg,List.mem_append,List.mem_cons] at hx
  rcases hx with hx | rfl | hx
  .exact h.ok x (List.mem_of_mem_take hx)
  .exact hok.1.1.1.2
  .exact h.ok x (List.mem_of_mem_drop hx)
 .cases e
theorem Aid {t:A1} {s:A6} {k loc:Nat} (h:Gr t s (k+1)) {L:List (List Int)} (h0:L≠[]) (h1:L.length<=2+k) (h2:∀ c∈L,c.length<=2+k):Gr t { s with mo:=s.mo.set loc L } (k+1):=by
 refine ⟨⟨h.big.has,h.big.jf,by rw [List.length_set];exact h.big.mo,?_,?_⟩,h.ok⟩
 .intro l hl
  rcases List.mem_or_eq_of_mem_set hl with hl | rfl
  .exact h.big.mi l hl
  .exact ⟨h0,by omega⟩
 .intro l hl c hc
  rcases List.mem_or_eq_of_mem_set hl with hl | rfl
  .exact h.big.mc l hl c hc
  .have:=h2 c hc;omega
theorem Big.row {t:A1} {s:A6} {k:Nat} (h:Big t s k) (loc:Nat):(s.mo.getD loc []).length<=1+k/\∀ c∈s.mo.getD loc [],c.length<=1+k:=by
 by_cases hl:loc < s.mo.length
 .have:=Ai (d:=[]) hl
  exact ⟨(h.mi _ this).2,fun c hc=>h.mc _ this c hc⟩
 .rw [List.getD_eq_getElem?_getD,List.getElem?_eq_none (by omega)]
  simp
theorem Ady {t:A1} {s s':A6} {n kind w:Int} (e:D6 t s n kind w=some s'):s'.mo=s.mo:=by
 unfold D6 at e
 split at e
 .cases e;rfl
 .cases e
theorem A2q {t:A1} {s s':A6} {k:Nat} (h:Gr t s k) {n w:Int} (e:EM t s n w=some s'):Gr t s' (k+1):=by
 unfold EM at e
 split at e
 .rename_i x hx
  have hg:=NC h hx
  have hm:=Ady hx
  split at e
  .cases e
  .cases e
   have hr:=h.big.row (t.at n.toNat).loc.toNat
   rw [<- hm] at hr
   refine Aid hg (by simp) ?_ ?_
   .simp only [List.length_append,List.length_cons,List.length_take,List.length_drop];omega
   .intro c hc
    simp only [List.mem_append,List.mem_cons] at hc
    rcases hc with hc | rfl | hc
    .have:=hr.2 c (List.mem_of_mem_take hc);omega
    .simp;omega
    .have:=hr.2 c (List.mem_of_mem_drop hc);omega
 .cases e
theorem Gr.mono {t:A1} {s:A6} {k j:Nat} (h:Gr t s k) (hk:k<=j):Gr t s j:=⟨h.big.mono hk,h.ok⟩
end Go.AM
