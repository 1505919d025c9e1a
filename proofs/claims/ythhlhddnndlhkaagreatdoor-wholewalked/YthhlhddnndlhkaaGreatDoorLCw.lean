/-
  Own work, part of the proof of these laws: plain laws.
-/
import Derived.Test.YthhlhddnndlhkaaGreatDoorLAw
set_option maxRecDepth 10000
set_option maxHeartbeats 64000000
set_option linter.unusedVariables false
set_option linter.unusedSimpArgs false
namespace Go.AM
open Go Go.Proofs
theorem GL.sub {t:A1}:∀ {n u e:Nat},GL t n u e->∀ m,u<=m->m < e->∃ n' e',GL t n' m e':=by
 intro n
 induction n with
 | zero=>intro u e h;exact absurd h (by simp [GL])
 | succ n ih =>
  intro u e h m h1 h2
  rcases Nat.eq_or_lt_of_le h1 with c | c
  .rw [<- c];exact ⟨n+1,e,h⟩
  .obtain ⟨⟨_,ht,_⟩,h⟩:=h
   rcases h with ⟨_,_,rfl⟩ | ⟨_,_,_,al,hb⟩ | ⟨_,_,_,vals,k,loc,mode,_,hv0,hk0,hke,hloc,hs,_⟩
   .omega
   .exact ih hb m (by omega) h2
   .obtain ⟨v,hv,a,b⟩:=Cx (k:=k) (m:=m) vals (by omega) (by omega)
    exact ih (hs v hv).2.2 m a b
theorem GL.wval {t:A1}:∀ {n u e:Nat},GL t n u e->∀ m,u < m->m < e->(t.at m).kind=3->GJ t (t.at m).val=true:=by
 intro n
 induction n with
 | zero=>intro u e h;exact absurd h (by simp [GL])
 | succ n ih =>
  intro u e h m h1 h2 hk
  obtain ⟨⟨_,ht,_⟩,h⟩:=h
  rcases h with ⟨_,_,rfl⟩ | ⟨c,_,_,al,hb⟩ | ⟨c,_,_,vals,k,loc,mode,_,hv0,hk0,hke,hloc,hs,_⟩
  .omega
  .by_cases e1:m=u+1
   .subst e1
    simp only [Do,Bool.or_eq_true,Bool.and_eq_true,decide_eq_true_eq] at al
    rcases al with h | h
    .have:=h.1.1.1.1.1;omega
    .exact h.1.2
   .exact ih hb m (by omega) h2 hk
  .obtain ⟨v,hv,a,b⟩:=Cx (k:=k) (m:=m) vals (by omega) (by omega)
   obtain ⟨s1,s2,s3⟩:=hs v hv
   by_cases e1:m=k v
   .subst e1
    simp only [EJ,Bool.and_eq_true,decide_eq_true_eq] at s2
    have:=s2.1.1.1.1;omega
   .exact ih s3 m (by omega) b hk
theorem A5.wval {t:A1} (h:A5 t) {m:Nat} (hm:m < t.nodes.length) (hk:(t.at m).kind=3):GJ t (t.at m).val=true:=by
 by_cases c:m < t.locs.length
 .have:=h.first.2 m c
  simp only [Jk,Bool.and_eq_true] at this
  exact this.1.1.1.2
 .obtain ⟨s,h0,he,hs⟩:=h.thr
  obtain ⟨v,hv,a,b⟩:=Cx (k:=s) (m:=m) t.regs.length (by omega) (by omega)
  obtain ⟨hb,n,hn⟩:=hs v hv
  by_cases e1:m=s v
  .subst e1
   simp only [Eu,Bool.and_eq_true,decide_eq_true_eq] at hb
   have:=hb.1.1.1.1.2;omega
  .exact hn.wval m (by omega) b hk
theorem WI.vals {t:A1} (ht:A5 t) {s:A6} {mem:List Int} {k:Nat} (W:WI t s mem k) (loc:Nat) (hl:loc < t.locs.length):GJ t (mem.getD loc 0)=true:=by
 have hml:=W.form.ml
 obtain ⟨w,e,h1,h2,h3,_⟩:=W.last (loc:=loc) (by omega)
 rw [W.mem loc hl,e,Int.toNat_natCast]
 obtain ⟨w',e2,hw⟩:=A8 (W.form.node _ h1)
 exact ht.wval (by omega) h2
end Go.AM
