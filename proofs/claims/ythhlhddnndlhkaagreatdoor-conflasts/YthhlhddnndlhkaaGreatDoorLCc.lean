/-
  Own work, part of the proof of these laws: plain laws.
-/
import Derived.Test.YthhlhddnndlhkaaGreatDoorKMc
set_option maxRecDepth 10000
set_option maxHeartbeats 64000000
set_option linter.unusedVariables false
set_option linter.unusedSimpArgs false
set_option linter.unnecessarySimpa false
open Bool (and_eq_true)
namespace Go.AM
open Go Go.Proofs
theorem GL.sub {t:A1}:∀ {n u e:Nat},GL t n u e->∀ m,u<=m->m < e->∃ n' e',GL t n' m e':=by
 intro n
 induction n with
 | zero=>intro u e h;exact absurd h (by simp [GL])
 | succ n ih =>
  intro u e h m h1 h2
  rcases Nat.eq_or_lt_of_le h1 with c | c
  .rw [<- c];exact ⟨n+1,e,h⟩
  .obtain ⟨⟨_,ht,_⟩,h⟩:=h
   rcases h with ⟨_,_,rfl⟩ | ⟨_,_,_,al,hb⟩ | ⟨_,_,_,vals,k,loc,mode,_,hv0,hk0,hke,hloc,hs,_⟩
   .omega
   .exact ih hb m (by omega) h2
   .obtain ⟨v,hv,a,b⟩:=Cx (k:=k) (m:=m) vals (by omega) (by omega)
    exact ih (hs v hv).2.2 m a b
theorem GL.wval {t:A1}:∀ {n u e:Nat},GL t n u e->∀ m,u < m->m < e->(t.at m).kind=3->GJ t (t.at m).val=true:=by
 intro n
 induction n with
 | zero=>intro u e h;exact absurd h (by simp [GL])
 | succ n ih =>
  intro u e h m h1 h2 hk
  obtain ⟨⟨_,ht,_⟩,h⟩:=h
  rcases h with ⟨_,_,rfl⟩ | ⟨c,_,_,al,hb⟩ | ⟨c,_,_,vals,k,loc,mode,_,hv0,hk0,hke,hloc,hs,_⟩
  .omega
  .by_cases e1:m=u+1
   .subst e1
    simp only [Do,Bool.or_eq_true,and_eq_true,decide_eq_true_eq] at al
    rcases al with h | h
    .have:=h.1.1.1.1.1;omega
    .exact h.1.2
   .exact ih hb m (by omega) h2 hk
  .obtain ⟨v,hv,a,b⟩:=Cx (k:=k) (m:=m) vals (by omega) (by omega)
   obtain ⟨s1,s2,s3⟩:=hs v hv
   by_cases e1:m=k v
   .subst e1
    simp only [EJ,and_eq_true,decide_eq_true_eq] at s2
    have:=s2.1.1.1.1;omega
   .exact ih s3 m (by omega) b hk
theorem A5.ben {t:A1} (h:A5 t) {m:Nat} (hm:m < t.nodes.length) (h0:0<=(t.at m).thread):∃ n e,GL t n m e:=by
 have hl:t.locs.length<=m:=by
  rcases Nat.lt_or_ge m t.locs.length with c | c
  .have:=(h.init m c).thr;omega
  .exact c
 obtain ⟨s,h0,he,hs⟩:=h.thr
 obtain ⟨v,hv,a,b⟩:=Cx (k:=s) (m:=m) t.regs.length (by omega) (by omega)
 obtain ⟨_,n,hn⟩:=hs v hv
 exact hn.sub m a b
theorem A5.wval {t:A1} (h:A5 t) {m:Nat} (hm:m < t.nodes.length) (hk:(t.at m).kind=3):GJ t (t.at m).val=true:=by
 by_cases c:m < t.locs.length
 .have:=h.first.2 m c
  simp only [Jk,and_eq_true] at this
  exact this.1.1.1.2
 .obtain ⟨s,h0,he,hs⟩:=h.thr
  obtain ⟨v,hv,a,b⟩:=Cx (k:=s) (m:=m) t.regs.length (by omega) (by omega)
  obtain ⟨hb,n,hn⟩:=hs v hv
  by_cases e1:m=s v
  .subst e1
   simp only [Eu,and_eq_true,decide_eq_true_eq] at hb
   have:=hb.1.1.1.1.2;omega
  .exact hn.wval m (by omega) b hk
theorem AfD {t:A1} (ht:A5 t) {u:Nat} (hu:u < t.nodes.length) (h0:0<=(t.at u).thread) {mem:List Int} (hm:∀ loc,loc < t.locs.length->GJ t (mem.getD loc 0)=true) (hn:EY t u mem=none):(t.at u).fin=true:=by
 have none_all:(t.at u).fin=false->∀ i,i < t.nodes.length->(t.at i).up=(u:Int)->GQ t mem i=false:=fun hf i hi hiu=>by
  unfold EY at hn
  rw [if_neg (by rw [hf];decide),Option.map_eq_none_iff,List.find?_eq_none] at hn
  have:=hn i (by rw [HG,if_neg (by omega),List.mem_filter];exact ⟨List.mem_range.2 hi,decide_eq_true hiu⟩)
  simpa using this
 obtain ⟨n,e,hb⟩:=ht.ben hu h0
 cases n with
 | zero=>exact absurd hb (by simp [GL])
 | succ n =>
  obtain ⟨_,h⟩:=hb
  rcases h with ⟨_,he,_⟩ | ⟨c,hf,_,al,_⟩ | ⟨_,hf,_,vals,k,loc,mode,hva,hv0,hk0,hke,hloc,hs,_⟩
  .simp only [A8J,and_eq_true] at he
   exact he.1.1
  .exfalso
   have hl:u+1 < t.nodes.length:=by
    simp only [C8,and_eq_true,decide_eq_true_eq] at c;exact c.1.1
   have:=none_all hf (u+1) hl (DU c).1
   have hk:(t.at (u+1)).kind≠2:=by
    simp only [Do,Bool.or_eq_true,and_eq_true,decide_eq_true_eq] at al
    rcases al with h | h
    .have:=h.1.1.1.1.1;omega
    .have:=h.1.1.1;omega
   rw [GQ,decide_eq_false hk] at this
   cases this
  .exfalso
   simp only [LL,and_eq_true,decide_eq_true_eq] at hloc
   have hv:=hm loc.toNat (by omega)
   simp only [GJ,and_eq_true,decide_eq_true_eq] at hv
   obtain ⟨v,hve⟩:=Int.eq_ofNat_of_zero_le hv.1
   obtain ⟨c1,c2,_⟩:=hs v (by omega)
   have hl:k v < t.nodes.length:=by
    simp only [C8,and_eq_true,decide_eq_true_eq] at c1;exact c1.1.1
   have:=none_all hf (k v) hl (DU c1).1
   simp only [EJ,and_eq_true,decide_eq_true_eq] at c2
   obtain ⟨⟨⟨⟨s1,s2⟩,s3⟩,_⟩,_⟩:=c2
   rw [GQ,s2,s3,hve,decide_eq_true rfl,Bool.or_true] at this
   cases this
theorem WI.vals {t:A1} (ht:A5 t) {s:A6} {mem:List Int} {k:Nat} (W:WI t s mem k) (loc:Nat) (hl:loc < t.locs.length):GJ t (mem.getD loc 0)=true:=by
 have hml:=W.form.ml
 obtain ⟨w,e,h1,h2,h3,_⟩:=W.last (loc:=loc) (by omega)
 rw [W.mem loc hl,e,Int.toNat_natCast]
 obtain ⟨w',e2,hw⟩:=A8 (W.form.node _ h1)
 exact ht.wval (by omega) h2
end Go.AM
