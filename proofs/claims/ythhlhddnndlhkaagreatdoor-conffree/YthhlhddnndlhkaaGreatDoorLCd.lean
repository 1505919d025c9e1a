/-
  Own work, part of the proof of these laws: plain laws.
-/
import Derived.Test.YthhlhddnndlhkaaGreatDoorKMd
set_option maxRecDepth 10000
set_option maxHeartbeats 64000000
set_option linter.unusedVariables false
set_option linter.unusedSimpArgs false
open Bool (and_eq_true)
open Int (toNat_natCast)
namespace Go.AM
open Go Go.Proofs
theorem AnC {t:A1} (ht:A5 t) {s:A6} (hf:AG t s) {w e:Nat} (hw:(w:Int)∈s.has) (hk:(t.at w).kind=3) (he:e < t.nodes.length):A8N t s w e=AeD t s w e:=by
 have h0:=ht.n64
 obtain ⟨h1,h2⟩:=A6F hf ht hw hk
 have hl:=ht.wloc (m:=w) (by obtain ⟨_,a,b⟩:=A8 (hf.node _ hw);omega) (.inr hk)
 have h4:=hf.ml
 unfold A8N AeD
 rw [Bool.eq_iff_iff,List.any_eq_true,List.any_eq_true]
 have h3:∀ x∈Yf t s w,(decide (x=(e:Int)) || Bc ((LV t).getD x.toNat 0#64) e || Bc ((LV t).getD e 0#64) x)=(decide (x=(e:Int)) || Ap t x e || Ap t e x):=fun x hx=>by
  obtain ⟨m,rfl,hm⟩:=A8 (A3B hf ht (loc:=(t.at w).loc.toNat) (by omega) h1 hx)
  rw [toNat_natCast,LV,Gq h0 hm he,Gq h0 he hm]
 constructor
 .rintro ⟨x,hx,hp⟩;exact ⟨x,hx,by rw [<- h3 x hx];exact hp⟩
 .rintro ⟨x,hx,hp⟩;exact ⟨x,hx,by rw [h3 x hx];exact hp⟩
theorem ArT {t:A1} (ht:A5 t) {s:A6} (hf:AG t s) {e r:Nat} (he:(e:Int)∈s.has) (h:YF t s e r=true):(r:Int)∈s.has :=
 (A2c ht hf (S:=fun _=>True) (fun _ _ _ _ _=>trivial) he trivial h).2
theorem A2n {t:A1} (ht:A5 t) {s:A6} (hf:AG t s) {e:Nat} (he:(e:Int)∈s.has):AiF t s e=Es t s e:=by
 have h6:=ht.n64
 have hF:=AY (AJ (AE.2 hf))
 obtain ⟨e',e1,h3⟩:=A8 (hf.node _ he)
 have e1:e=e':=by omega
 subst e1
 have h5:∀ r:Nat,(r:Int)∈s.has->r < t.nodes.length->Bc (hgW t s e) (r:Int)=true->HJ t s e r (Ey s.has s.jf r) = !A1a t s r e:=fun r hr h2 hg=>by
  unfold A1a
  simp only [GH hF.len]
  by_cases hk:(t.at r).kind=2
  .obtain ⟨q1,q2,_⟩:=hF.read r hr (by rw [toNat_natCast];exact hk)
   obtain ⟨w,hw,h9⟩:=A8 (hf.node _ q1)
   rw [hw,toNat_natCast] at q2
   rw [hw] at q1 ⊢
   rw [HJ,toNat_natCast,toNat_natCast,decide_eq_false (show ¬ (w:Int) < 0 by omega),hg]
   by_cases c1:(t.at w).thread < 0
   .rw [decide_eq_true c1,if_pos (.inr (.inl c1))];simp
   .by_cases c2:(t.at w).thread=(t.at r).thread
    .rw [decide_eq_true c2,if_pos (.inr (.inr c2))];simp
    .rw [decide_eq_false c1,decide_eq_false c2,if_neg (by
      rintro (h | h | h)
      .omega
      .exact c1 h
      .exact c2 h),PB,Gq h6 h9 h3,AnC ht hf q1 q2 h3]
     cases AH t w e<;>cases AeD t s w e<;>rfl
  .have hn:=hF.none r hr (by rw [toNat_natCast];exact hk)
   rw [hn,HJ,decide_eq_true (show (-1:Int) < 0 by decide),if_pos (.inl (by decide))];simp
 have h7:∀ r:Nat,Bc (hgW t s e) (r:Int)=true↔r < t.nodes.length/\YF t s e r=true:=fun r=>by
  rw [AC,hgW,List.getD_eq_getElem?_getD,Bm h3,Option.getD_some,Au]
  simp only [and_eq_true,decide_eq_true_eq]
  constructor
  .rintro ⟨⟨a,b⟩,_⟩;exact ⟨a,b⟩
  .rintro ⟨a,b⟩;exact ⟨⟨a,b⟩,by omega⟩
 rw [AiF,Es,AfO,Bool.eq_iff_iff,Ah,List.all_eq_true]
 constructor
 .intro h x hx
  obtain ⟨h1,_⟩:=CN (B4.1 hx)
  obtain ⟨r,rfl⟩:=Int.eq_ofNat_of_zero_le h1
  have hg:Bc (hgW t s e) (r:Int)=true:=B4.1 hx
  obtain ⟨h2,h8⟩:=(h7 r).1 hg
  have hr:=ArT ht hf he h8
  obtain ⟨i,hi,ei⟩:=List.getElem_of_mem hr
  have eg:s.has.getD i 0=(r:Int):=by rw [List.getD_eq_getElem?_getD,List.getElem?_eq_getElem hi];exact ei
  have:=h i hi
  have h0:=hF.at_ i hi
  rw [eg] at this h0
  rw [<- h0,h5 r hr h2 hg] at this
  rw [toNat_natCast];exact this
 .intro h i hi
  obtain ⟨r,hr,h2⟩:=A8 (hf.node _ (Ai (d:=0) hi))
  have h4:=Ai (d:=0) hi
  have h0:=hF.at_ i hi
  rw [hr] at h4 h0 ⊢
  rw [<- h0]
  cases hg:Bc (hgW t s e) (r:Int) with
  | false=>rw [HJ,hg];simp
  | true =>
   rw [h5 r h4 h2 hg]
   have:=h (r:Int) (B4.2 hg)
   rwa [toNat_natCast] at this
theorem Rg {t:A1} (ht:A5 t) {s:A6} {e:Nat} (he:e < t.nodes.length) {x:Int}:x∈Mx (JP t s.has s.jf) e↔∃ a:Nat,x=a/\a < t.nodes.length/\Zg t s e a=true:=by
 have hl:(JP t s.has s.jf).length=t.nodes.length:=Dh ht.n64 _
 rw [Mx,List.mem_cons,hl]
 simp only [My,List.mem_map,List.mem_filter,List.mem_range,and_eq_true,Bool.not_eq_true',decide_eq_false_iff_not,AC]
 constructor
 .rintro (rfl | ⟨a,⟨h1,h2,h3⟩,rfl⟩)
  .exact ⟨e,rfl,he,by simp [Zg]⟩
  .exact ⟨a,rfl,h1,by rw [Zg,hbQ,h3,Bool.true_or]⟩
 .rintro ⟨a,rfl,h1,h2⟩
  by_cases c:a=e
  .left;rw [c]
  .right
   refine ⟨a,⟨h1,c,?_⟩,rfl⟩
   simp only [Zg,Bool.or_eq_true,decide_eq_true_eq] at h2
   rcases h2 with h | h
   .exact h
   .exact absurd h.symm c
theorem A14 {t:A1} (ht:A5 t) {s:A6} {a b:Nat} (ha:a < t.nodes.length) (hb:b < t.nodes.length):PU t (Mx (JP t s.has s.jf) a) (Mx (JP t s.has s.jf) b)=BR t s a b:=by
 rw [Bool.eq_iff_iff,JM ht ha hb,PU,List.any_eq_true]
 constructor
 .rintro ⟨x,hx,h⟩
  rw [List.any_eq_true] at h
  obtain ⟨y,hy,h⟩:=h
  obtain ⟨x,rfl,h1,h2⟩:=(Rg ht ha).1 hx
  obtain ⟨y,rfl,h3,h4⟩:=(Rg ht hb).1 hy
  exact ⟨x,y,h1,h3,h2,h4,h⟩
 .rintro ⟨x,y,h1,h3,h2,h4,h⟩
  refine ⟨x,(Rg ht ha).2 ⟨x,rfl,h1,h2⟩,?_⟩
  rw [List.any_eq_true]
  exact ⟨y,(Rg ht hb).2 ⟨y,rfl,h3,h4⟩,h⟩
theorem GL.sub {t:A1}:∀ {n u e:Nat},GL t n u e->∀ m,u<=m->m < e->∃ n' e',GL t n' m e':=by
 intro n
 induction n with
 | zero=>intro u e h;exact absurd h (by simp [GL])
 | succ n ih =>
  intro u e h m h1 h2
  rcases Nat.eq_or_lt_of_le h1 with c | c
  .rw [<- c];exact ⟨n+1,e,h⟩
  .obtain ⟨⟨_,ht,_⟩,h⟩:=h
   rcases h with ⟨_,_,rfl⟩ | ⟨_,_,_,al,hb⟩ | ⟨_,_,_,vals,k,loc,mode,_,hv0,hk0,hke,hloc,hs,_⟩
   .omega
   .exact ih hb m (by omega) h2
   .obtain ⟨v,hv,a,b⟩:=Cx (k:=k) (m:=m) vals (by omega) (by omega)
    exact ih (hs v hv).2.2 m a b
theorem GL.wval {t:A1}:∀ {n u e:Nat},GL t n u e->∀ m,u < m->m < e->(t.at m).kind=3->GJ t (t.at m).val=true:=by
 intro n
 induction n with
 | zero=>intro u e h;exact absurd h (by simp [GL])
 | succ n ih =>
  intro u e h m h1 h2 hk
  obtain ⟨⟨_,ht,_⟩,h⟩:=h
  rcases h with ⟨_,_,rfl⟩ | ⟨c,_,_,al,hb⟩ | ⟨c,_,_,vals,k,loc,mode,_,hv0,hk0,hke,hloc,hs,_⟩
  .omega
  .by_cases e1:m=u+1
   .subst e1
    simp only [Do,Bool.or_eq_true,and_eq_true,decide_eq_true_eq] at al
    rcases al with h | h
    .have:=h.1.1.1.1.1;omega
    .exact h.1.2
   .exact ih hb m (by omega) h2 hk
  .obtain ⟨v,hv,a,b⟩:=Cx (k:=k) (m:=m) vals (by omega) (by omega)
   obtain ⟨s1,s2,s3⟩:=hs v hv
   by_cases e1:m=k v
   .subst e1
    simp only [EJ,and_eq_true,decide_eq_true_eq] at s2
    have:=s2.1.1.1.1;omega
   .exact ih s3 m (by omega) b hk
theorem A5.wval {t:A1} (h:A5 t) {m:Nat} (hm:m < t.nodes.length) (hk:(t.at m).kind=3):GJ t (t.at m).val=true:=by
 by_cases c:m < t.locs.length
 .have:=h.first.2 m c
  simp only [Jk,and_eq_true] at this
  exact this.1.1.1.2
 .obtain ⟨s,h0,he,hs⟩:=h.thr
  obtain ⟨v,hv,a,b⟩:=Cx (k:=s) (m:=m) t.regs.length (by omega) (by omega)
  obtain ⟨hb,n,hn⟩:=hs v hv
  by_cases e1:m=s v
  .subst e1
   simp only [Eu,and_eq_true,decide_eq_true_eq] at hb
   have:=hb.1.1.1.1.2;omega
  .exact hn.wval m (by omega) b hk
theorem WI.vals {t:A1} (ht:A5 t) {s:A6} {mem:List Int} {k:Nat} (W:WI t s mem k) (loc:Nat) (hl:loc < t.locs.length):GJ t (mem.getD loc 0)=true:=by
 have h0:=W.form.ml
 obtain ⟨w,e,h1,h2,h3,_⟩:=W.last (loc:=loc) (by omega)
 rw [W.mem loc hl,e,toNat_natCast]
 obtain ⟨w',e2,hw⟩:=A8 (W.form.node _ h1)
 exact ht.wval (by omega) h2
end Go.AM
