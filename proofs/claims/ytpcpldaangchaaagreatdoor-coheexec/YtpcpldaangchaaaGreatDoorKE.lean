/-
  Own work, part of the proof of CoheExec: what functions compute (fifth part).
-/
import Derived.Test.YtpcpldaangchaaaGreatDoorKD
set_option maxRecDepth 4000
set_option linter.unusedVariables false
set_option linter.unusedSimpArgs false
set_option linter.unusedSectionVars false
set_option linter.unnecessarySimpa false
namespace Go.AM
open Go Go.Proofs
section
variable {V:Al} {m:Nat→Nat} {Q:Ex→A3→VH→Prop}
theorem SX {M:Type} (I:M→A3→VH→Prop) (μ:M→Nat) {c:A1}
  (k:∀ x F h,I x F h→Vc V m c F h (fun e F' h'=>match e with | .norm=>¬ LF h.length h h'∧∃ x',μ x' < μ x∧I x' F' h' | e=>Q e F' h')):∀ x F h,I x F h→Vc V m (.loop c) F h Q:=by
 have key:∀ j x F h,μ x≤j→I x F h→Vc V m (.loop c) F h Q:=by
  intro j
  induction j with
  | zero =>
   intro x F h hj hi
   rw [NY]
   refine (k x F h hi).mono fun e F' h' hq=>?_
   cases e with
   | norm=>obtain ⟨_,x',h1,_⟩:=hq;omega
   | _=>exact hq
  | succ j ih =>
   intro x F h hj hi
   rw [NY]
   refine (k x F h hi).mono fun e F' h' hq=>?_
   cases e with
   | norm =>
    obtain ⟨h0,x',h1,h2⟩:=hq
    unfold gcF gcH
    rw [if_neg h0,if_neg h0]
    exact ih x' _ _ (by omega) h2
   | _=>exact hq
 exact fun x F h hi=>key _ x F h (Nat.le_refl _) hi
end
abbrev i7 (n:Nat):Nat:=n+1+1+1+1+1+1+1
section
variable {V:Al} (C:AA V)
include C
end
theorem LT.mono {V:Al} {g:Nat} {args:List VV} {h:VH} {Q Q':VV→VH→Prop} (k:LT V g args h Q) (i:∀ v h',Q v h'→Q' v h'):LT V g args h Q':=by
 obtain ⟨vf,e,hb⟩:=k
 exact ⟨vf,e,hb.mono i⟩
section
variable {V:Al} (C:AA V)
include C
end
theorem HM.kind {t:A4}:∀ {n u e:Nat},HM t n u e→∀ m,u < m→m < e→(t.at m).kind=2∨(t.at m).kind=3∨(t.at m).kind=4:=by
 intro n
 induction n with
 | zero=>intro u e h;exact absurd h (by simp [HM])
 | succ n ih =>
  intro u e h m h1 h2
  obtain ⟨⟨_,ht,_⟩,h⟩:=h
  rcases h with ⟨_,_,rfl⟩ | ⟨c,_,_,al,hb⟩ | ⟨c,_,_,vals,k,loc,mode,_,_,hk0,hke,hloc,hs,_⟩
  ·omega
  ·by_cases e1:m=u+1
   ·subst e1
    simp only [Dc,Bool.or_eq_true,Bool.and_eq_true,decide_eq_true_eq] at al
    rcases al with h | h
    ·exact .inr (.inr h.1.1.1.1.1)
    ·exact .inr (.inl h.1.1.1)
   ·exact ih hb m (by omega) h2
  ·obtain ⟨v,hv,a,b⟩:=Ey (k:=k) (m:=m) vals (by omega) (by omega)
   obtain ⟨s1,s2,s3⟩:=hs v hv
   by_cases e1:m=k v
   ·subst e1
    simp only [Em,Bool.and_eq_true,decide_eq_true_eq] at s2
    exact .inl s2.1.1.1.1
   ·exact ih s3 m (by omega) b
theorem Aa.kind {t:A4} (h:Aa t) {m:Nat} (h2:m < t.nodes.length) (h3:0≤(t.at m).up):(t.at m).kind=2∨(t.at m).kind=3∨(t.at m).kind=4:=by
 by_cases c:m < t.locs.length
 ·have:=(h.init m c).up;omega
 ·obtain ⟨s,h0,he,hs⟩:=h.thr
  obtain ⟨v,hv,a,b⟩:=Ey (k:=s) (m:=m) t.regs.length (by omega) (by omega)
  obtain ⟨hb,n,hn⟩:=hs v hv
  by_cases e1:m=s v
  ·subst e1
   simp only [Et,Bool.and_eq_true,decide_eq_true_eq] at hb
   have:=hb.1.1.1.1.1.2
   omega
  ·exact hn.kind m (by omega) b
structure Gr (t:A4) (s:Am) (k:Nat):Prop where
 big:Big t s k
 ok:∀ x∈s.has,BT t x=true
theorem Gr.sz {t:A4} (ht:Aa t) {s:Am} {k:Nat} (h:Gr t s k) (hk:k≤100):Wg s:=h.big.sz ht hk
theorem Gr.sz' {t:A4} {s:Am} {k:Nat} (h:Gr t s k) (hk:k≤100):s.has.length < 1000∧s.jf.length < 1000∧∀ l∈s.mo,∀ c∈l,c.length < 1000 :=
 ⟨by have:=h.big.has;omega,by have:=h.big.jf;omega,fun l hl c hc=>by have:=h.big.mc l hl c hc;omega⟩
theorem A7X {t:A4} (ht:Aa t):Gr t (Bp t) 0:=by
 refine ⟨A4A ht,fun x hx=>?_⟩
 simp only [Bp,DL,List.mem_map,List.mem_filter,List.mem_range] at hx
 obtain ⟨i,⟨hi,_⟩,rfl⟩:=hx
 exact Cl hi
theorem U9 {t:A4} {s s':Am} {k:Nat} (h:Gr t s k) {n kind w:Int} (e:Dp t s n kind w=some s'):Gr t s' (k+1):=by
 unfold Dp at e
 split at e
 ·rename_i hok
  cases e
  simp only [Cv,Ck,Bool.and_eq_true,decide_eq_true_eq] at hok
  refine ⟨A79 h.big hok.1.1.1.1.1.1.1.1.2 n w,?_⟩
  intro x hx
  simp only [CA,Bn,List.mem_append,List.mem_cons] at hx
  rcases hx with hx | rfl | hx
  ·exact h.ok x (List.mem_of_mem_take hx)
  ·exact hok.1.1.1.2
  ·exact h.ok x (List.mem_of_mem_drop hx)
 ·cases e
theorem AdH {t:A4} {s:Am} {k loc:Nat} (h:Gr t s (k+1)) {L:List (List Int)} (h0:L≠[]) (h1:L.length≤2+k) (h2:∀ c∈L,c.length≤2+k):Gr t { s with mo:=s.mo.set loc L } (k+1):=by
 refine ⟨⟨h.big.has,h.big.jf,by rw [List.length_set];exact h.big.mo,?_,?_⟩,h.ok⟩
 ·intro l hl
  rcases List.mem_or_eq_of_mem_set hl with hl | rfl
  ·exact h.big.mi l hl
  ·exact ⟨h0,by omega⟩
 ·intro l hl c hc
  rcases List.mem_or_eq_of_mem_set hl with hl | rfl
  ·exact h.big.mc l hl c hc
  ·have:=h2 c hc;omega
theorem Big.row {t:A4} {s:Am} {k:Nat} (h:Big t s k) (loc:Nat):(s.mo.getD loc []).length≤1+k∧∀ c∈s.mo.getD loc [],c.length≤1+k:=by
 by_cases hl:loc < s.mo.length
 ·have:=Aj (d:=[]) hl
  exact ⟨(h.mi _ this).2,fun c hc=>h.mc _ this c hc⟩
 ·rw [List.getD_eq_getElem?_getD,List.getElem?_eq_none (by omega)]
  simp
theorem Aa0 {t:A4} {s s':Am} {n kind w:Int} (e:Dp t s n kind w=some s'):s'.mo=s.mo:=by
 unfold Dp at e
 split at e
 ·cases e;rfl
 ·cases e
theorem A8k {t:A4} {s s':Am} {k:Nat} (h:Gr t s k) {n w:Int} (e:Hw t s n w=some s'):Gr t s' (k+1):=by
 unfold Hw at e
 split at e
 ·rename_i x hx
  have hg:=U9 h hx
  have hm:=Aa0 hx
  split at e
  ·cases e
  ·cases e
   have hr:=h.big.row (t.at n.toNat).loc.toNat
   rw [← hm] at hr
   refine AdH hg (by simp) ?_ ?_
   ·simp only [List.length_append,List.length_cons,List.length_take,List.length_drop];omega
   ·intro c hc
    simp only [List.mem_append,List.mem_cons] at hc
    rcases hc with hc | rfl | hc
    ·have:=hr.2 c (List.mem_of_mem_take hc);omega
    ·simp;omega
    ·have:=hr.2 c (List.mem_of_mem_drop hc);omega
 ·cases e
theorem Gr.mono {t:A4} {s:Am} {k j:Nat} (h:Gr t s k) (hk:k≤j):Gr t s j:=⟨h.big.mono hk,h.ok⟩
def Yc {α:Type} (l:List α) (d:α) (i k:Nat):List α:=(l.set i (l.getD k d)).set k (l.getD i d)
section
variable {V:Al} (C:AA V) {Q:VV→Prop}
include C
end
theorem Ko {e:Option NW} {a l:Nat} (h:0 < l):B6 .rem e (.i .i64 (a:Int)) (.i .i64 (l:Int))=some (.i .i64 ((a % l:Nat):Int)):=by
 rw [EE (by omega),Int.tmod_eq_emod_of_nonneg (by omega),Int.natCast_emod]
theorem Ng (s:Am):Mm (some s) = .tu [QZ s,.b true]:=rfl
section
variable {V:Al} (C:AA V) {Q:VV→Prop}
include C
end
theorem SC {α:Type} (l:List α) (d:α) (i k:Nat):(Yc l d i k).length=l.length:=by simp [Yc]
section
variable {V:Al} (C:AA V) {Q:VV→Prop}
include C
end
section
variable {V:Al} (C:AA V)
include C
end
end Go.AM
