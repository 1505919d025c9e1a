/-
  Own work, part of the proof of these laws: plain laws.
-/
import Derived.Test.YtpnaenhghnkggaaGreatDoorPA
set_option maxRecDepth 10000
set_option maxHeartbeats 64000000
set_option linter.unusedVariables false
set_option linter.unusedSimpArgs false
set_option linter.unnecessarySimpa false
open Bool (and_eq_true or_eq_true)
open Int (toNat_natCast)
namespace Go.AM
open Go Go.Proofs
theorem Aa9 {t:A1} {x:List Int} (hx:BX t x) {w:Int} (hw:w∈x) {a:Nat} (h:(LE t x w).getLsbD a=true):a < t.nodes.length:=by
 rw [LE,Aw,and_eq_true] at h
 have h1:=h.1
 simp only [Aa8,or_eq_true,and_eq_true,decide_eq_true_eq,A7] at h1
 have:(a:Int)∈x:=by
  grind
 obtain ⟨m,e,hm⟩:=Aa (hx _ this)
 omega
theorem A2m {t:A1} (ht:A5 t) {x f:List Int} (hF:CD t x f) {w:Int} (hw:w∈x) {a:Nat} (h:(BZ t x f w).getLsbD a=true):a < t.nodes.length:=by
 obtain ⟨j,_,h2,h3⟩:=(Ee _ _ _ _ _ _).1 h
 rcases KG ht hF hw j (fun k hk=>h2 k (by omega)) with e | e
 .have:=h2 j (Nat.le_refl _)
  rw [e] at this;cases this
 .exact Aa9 hF.node e h3
theorem A6D {t:A1} {x:List Int} (hx:BX t x) {r:Int} (hr:r∈x) {b:Nat} (h:HC t x r b=true):b < t.nodes.length:=by
 simp only [HC,or_eq_true,and_eq_true,decide_eq_true_eq,A7] at h
 have:(b:Int)∈x:=by
  grind
 obtain ⟨m,e,hm⟩:=Aa (hx _ this)
 omega
theorem A7e {n a:Nat} (ha:a < n) (p:Nat->Nat->Bool) (q:Nat->Bool) (hq:∀ b,q b=true->b < n):((Ax n p).map eW).set a [vW ((BO fun b=>decide (b < n) && p a b) ||| BO q)]=(Ax n fun i b=>p i b || (decide (i=a) && q b)).map eW:=by
 rw [<- Aal ha p q hq,DV ha,List.map_set]
def swP (t:A1) (x f:List Int) (L:List Int) (a b:Nat):Bool:=L.any fun r=>JF t x f r && BG (BZ t x f (Cc x f r)) (a:Int) && HC t x r b
theorem AdB {t:A1} {x f L:List Int} (h:∀ y,y∈L↔y∈x) (a b:Nat):swP t x f L a b=swB t x f a b:=by
 unfold swP swB
 grind
theorem AaA {t:A1} {x f L:List Int} {k:Nat} (hk:k < L.length) (a b:Nat):swP t x f (L.take (k+1)) a b=(swP t x f (L.take k) a b || (JF t x f (L.getD k 0) && BG (BZ t x f (Cc x f (L.getD k 0))) (a:Int) && HC t x (L.getD k 0) b)):=by
 grind [swP,List.take_succ_eq_append_getElem]
def XY (t:A1) (x f:List Int) (k:Nat):List Int:=(List.range t.nodes.length).map fun (n:Nat)=>Cc (x.take k) f (n:Int)
theorem Aa3 (t:A1) (x f:List Int):XY t x f 0=List.replicate t.nodes.length (-1):=by
 apply List.ext_getElem
 .simp [XY]
 grind [XY,Cc,AZ]
theorem Adh (t:A1) (x f:List Int):XY t x f x.length=onL t x f:=by unfold XY onL;rw [List.take_length]
theorem A5H {t:A1} {x f:List Int} {k:Nat}:(XY t x f k).length=t.nodes.length:=by simp [XY]
theorem AaT {l:List Int} {n:Int} (h:AZ l n=true) (m:List Int):BI (l++m) n=BI l n:=by
 have h':AZ (l++m) n=true:=A7.2 (List.mem_append_left _ (A7.1 h))
 obtain ⟨i,e1,i1,i2,i3⟩:=BV h
 obtain ⟨j,e2,j1,j2,j3⟩:=BV h'
 rw [e1,e2]
 have g:∀ k,k < l.length->(l++m).getD k 0=l.getD k 0:=fun k hk=>by grind
 grind
theorem Adi {t:A1} {x f:List Int} {k m:Nat} (hk:k < x.length) (hm:x.getD k 0=(m:Int)) (hmn:m < t.nodes.length) (hris:∀ i,i<=k->CB x i=true):((XY t x f k).map eI).set m [.i .i64 (f.getD k 0)]=(XY t x f (k+1)).map eI:=by
 have hlt:∀ i,i < k->x.getD i 0 < x.getD k 0:=by
  have:∀ j,j<=k->∀ i,i < j->x.getD i 0 < x.getD j 0:=by
   intro j
   induction j with
   | zero=>intro _ i h;omega
   | succ j ih =>
    intro hj i hi
    have:=hris (j+1) hj
    simp only [CB,or_eq_true,decide_eq_true_eq,Nat.add_sub_cancel] at this
    grind
  exact this k (Nat.le_refl _)
 have hnot:AZ (x.take k) (m:Int)=false:=by
  rw [<- Bool.not_eq_true,A7]
  grind [List.getElem_of_mem]
 have htk:x.take (k+1)=x.take k++[(m:Int)]:=by
  grind [List.take_succ_eq_append_getElem]
 have e0:((XY t x f k).map eI).set m [.i .i64 (f.getD k 0)]=((XY t x f k).set m (f.getD k 0)).map eI:=by rw [List.map_set]
 rw [e0]
 congr 1
 apply List.ext_getElem
 .simp [XY]
 .intro i h1 h2
  have hi:i < t.nodes.length:=by simpa [XY] using h2
  rw [List.getElem_set]
  by_cases c:m=i
  .subst c
   rw [if_pos rfl]
   simp only [XY,List.getElem_map,List.getElem_range]
   unfold Cc
   have h3:AZ (x.take (k+1)) (m:Int)=true:=by rw [htk,A7];simp
   rw [if_pos h3]
   grind [BV]
  .rw [if_neg c]
   simp only [XY,List.getElem_map,List.getElem_range]
   unfold Cc
   have c':¬ (i:Int)=(m:Int):=by omega
   have e:AZ (x.take (k+1)) (i:Int)=AZ (x.take k) (i:Int):=by
    rw [htk,Bool.eq_iff_iff,A7,A7,List.mem_append]
    simp [c']
   rw [e]
   by_cases c2:AZ (x.take k) (i:Int)=true
   .simp_all [AaT]
   .rw [if_neg c2,if_neg c2]
def hbF (t:A1) (x f:List Int):Rows:=if Eo t x f=true then J9 t x f else []
inductive Gz (p:Nat->Nat->Bool) (N:Nat) (a:Nat):Nat->Prop where
 | one {b:Nat} (hb:b < N) (h:p a b=true):Gz p N a b
 | more {b c:Nat} (h1:Gz p N a b) (hc:c < N) (h:p b c=true):Gz p N a c
theorem Gz.lt {p:Nat->Nat->Bool} {N a b:Nat} (h:Gz p N a b):b < N:=by cases h<;>assumption
theorem Gz.trans {p:Nat->Nat->Bool} {N a b c:Nat} (h:Gz p N a b) (k:Gz p N b c):Gz p N a c:=by
 induction k with
 | one hb h2=>exact .more h hb h2
 | more _ hc h2 ih=>exact .more ih hc h2
open Classical in
theorem Ds {n:Nat} (hn:n<=64) (p:Nat->Nat->Bool) {a b:Nat} (ha:a < n):((Cs (Ax n p)).getD a 0#64).getLsbD b=true↔Gz p n a b:=by
 have hl:(Ax n p).length<=64:=by rw [AJ];exact hn
 have e:(Cs (Ax n p)).getD a 0#64=Jj (Ax n p) ((Ax n p).getD a 0#64):=by
  rw [Cs,CM hn,if_pos rfl,List.getD_eq_getElem?_getD]
  simp [AJ,ha]
 rw [e]
 have hc:=A0z hl ((Ax n p).getD a 0#64)
 have row:∀ i j,i < n->(((Ax n p).getD i 0#64).getLsbD j=true↔j < n/\p i j=true):=fun i j hi=>by
  rw [DV hi,Aw]
  grind
 constructor
 .intro h
  have:=hc.least (BO fun j=>decide (Gz p n a j)) (fun j hj=>by
   obtain ⟨h1,h2⟩:=(row a j ha).1 hj
   rw [Aw]
   simp only [and_eq_true,decide_eq_true_eq]
   exact ⟨.one h1 h2,by omega⟩) (fun y hy hs j hj=>by
   rw [AJ] at hy
   obtain ⟨h1,h2⟩:=(row y j hy).1 hj
   rw [Aw] at hs ⊢
   simp only [and_eq_true,decide_eq_true_eq] at hs ⊢
   exact ⟨.more hs.1 h1 h2,by omega⟩) b h
  simp_all [Aw]
 .intro h
  induction h with
  | one hb h=>exact hc.sub _ ((row a _ ha).2 ⟨hb,h⟩)
  | more h1 hc' h2 ih=>exact hc.closed _ (by rw [AJ];exact h1.lt) ih _ ((row _ _ h1.lt).2 ⟨hc',h2⟩)
theorem Es {n:Nat} (hn:n<=64) (p:Nat->Nat->Bool):(Cs (Ax n p)).length=n:=by
 rw [Cs,CM hn,if_pos rfl];simp [AJ]
theorem Aad {n:Nat} (hn:n<=64) (p:Nat->Nat->Bool):Dz (Cs (Ax n p))=true:=by
 simp only [Dz,and_eq_true,decide_eq_true_eq,List.all_eq_true,Es hn]
 refine ⟨hn,fun r hr=>?_⟩
 obtain ⟨i,hi,rfl⟩:=List.getElem_of_mem hr
 rw [Es hn] at hi
 apply B4
 intro j hj
 rw [BitVec.getLsbD_and,BitVec.getLsbD_not,ED,Aw]
 have e:(Cs (Ax n p))[i]=(Cs (Ax n p)).getD i 0#64:=by grind
 rw [e]
 cases hb:((Cs (Ax n p)).getD i 0#64).getLsbD j with
 | false=>simp
 | true =>
  have:=((Ds hn p hi).1 hb).lt
  simp [this,hj]
theorem G5 {n:Nat} (hn:n<=64) (p:Nat->Nat->Bool) (x:Int×Int):x∈Bc (Cs (Ax n p))↔∃ a b:Nat,a < n/\x=((a:Int),(b:Int))/\Gz p n a b:=by
 rw [Bc,Aad hn,if_pos rfl,Es hn,List.mem_flatMap]
 constructor
 .rintro ⟨a,ha,h⟩
  have ha':=List.mem_range.1 ha
  obtain ⟨j,hj,rfl⟩:=List.mem_map.1 h
  obtain ⟨h1,h2⟩:=DF (Cb.1 hj)
  obtain ⟨b,rfl⟩:=Int.eq_ofNat_of_zero_le h1
  have h3:=Cb.1 hj
  rw [Au] at h3
  exact ⟨a,b,ha',rfl,(Ds hn p ha').1 h3⟩
 .rintro ⟨a,b,ha,rfl,h⟩
  refine ⟨a,List.mem_range.2 ha,List.mem_map.2 ⟨b,Cb.2 ?_,rfl⟩⟩
  grind [Au,Ds]
theorem G0.rmwLoc {t:A1}:∀ {n u e:Nat},G0 t n u e->∀ m,u < m->m < e->(t.at m).rmw=true->(t.at (t.at m).up.toNat).loc=(t.at m).loc:=by
 intro n
 induction n with
 | zero=>grind [G0]
 | succ n ih =>
  intro u e h m h1 h2 hr
  obtain ⟨⟨_,ht,_⟩,h⟩:=h
  rcases h with ⟨_,_,rfl⟩ | ⟨c,_,_,al,hb⟩ | ⟨c,_,_,vals,k,loc,mode,_,_,hk0,hke,hloc,hs,_⟩
  .omega
  .by_cases e1:m=u+1
   .subst e1
    obtain ⟨p,q⟩:=Hh c
    simp_all [CG]
   .exact ih hb m (by omega) h2 hr
  .obtain ⟨v,hv,a,b⟩:=Cw (k:=k) (m:=m) vals (by omega) (by omega)
   obtain ⟨s1,s2,s3⟩:=hs v hv
   by_cases e1:m=k v
   .grind [DB]
   .exact ih s3 m (by omega) b hr
theorem A5.rmwLoc {t:A1} (h:A5 t) {m:Nat} (h2:m < t.nodes.length) (hr:(t.at m).rmw=true):t.locs.length<=m/\(t.at (t.at m).up.toNat).loc=(t.at m).loc:=by
 have h1:t.locs.length<=m:=by
  rcases Nat.lt_or_ge m t.locs.length with h1 | h1
  .have:=h.first.2 m h1
   simp_all [Gh]
  .exact h1
 refine ⟨h1,?_⟩
 obtain ⟨s,h0,he,hs⟩:=h.thr
 obtain ⟨v,hv,a,b⟩:=Cw (k:=s) (m:=m) t.regs.length (by omega) (by omega)
 obtain ⟨hb,n,hn⟩:=hs v hv
 by_cases e1:m=s v
 .simp_all [Dt]
 .exact hn.rmwLoc m (by omega) b hr
theorem AeL {t:A1} (hu:Jd t) {a:Nat}:∀ (n:Nat) (b:Nat),b < n->b < t.nodes.length->AB t a b=true->a < b:=by
 intro n
 induction n with
 | zero=>intro b h;omega
 | succ n ih =>
  intro b hbn hb h
  unfold AB at h
  have hub:=hu b hb
  rw [Em hu a (by omega)] at h
  by_cases c1:(t.at b).up < 0
  .rw [if_pos c1] at h;cases h
  .rw [if_neg c1] at h
   by_cases c2:(t.at b).up=a
   .omega
   .rw [if_neg c2] at h
    have:=ih (t.at b).up.toNat (by omega) (by omega) h
    omega
theorem Ea {t:A1} (ht:A5 t) {a b:Nat} (h:At t a b=true):a < b:=by
 simp only [At,and_eq_true,toNat_natCast] at h
 obtain ⟨⟨h1,h2⟩,h3⟩:=h
 simp only [BF,and_eq_true,decide_eq_true_eq] at h1 h2
 by_cases c:(t.at a).thread < 0
 .rw [if_pos c,decide_eq_true_eq] at h3
  have k1:=(ht.thr_iff (m:=a) (by omega)).1 c
  have k2:¬ b < t.locs.length:=fun k=>by have:=(ht.thr_iff (m:=b) (by omega)).2 k;omega
  omega
 .rw [if_neg c] at h3
  exact AeL ht.up (b+1) b (by omega) (by omega) h3
theorem Rx {t:A1} (ht:A5 t) {v:Nat} (hv:v < t.nodes.length) (hu:0<=(t.at v).up):At t (t.at v).up v=true:=by
 have hlt:=ht.up v hv
 obtain ⟨u,hu'⟩:=Int.eq_ofNat_of_zero_le hu
 have hul:u < t.nodes.length:=by omega
 have hl:t.locs.length<=v:=by
  rcases Nat.lt_or_ge v t.locs.length with h1 | h1
  .have:=(ht.init v h1).up;omega
  .exact h1
 have hg:=ht.good v hl hv
 have hp:=hg.par hu
 rw [hu',toNat_natCast] at hp
 have hth:=hg.thr
 rw [hu',At,BT hul,BT hv,toNat_natCast,toNat_natCast,if_neg (by omega)]
 simp only [Bool.true_and]
 unfold AB
 rw [Em ht.up u (by omega),if_neg (by omega),if_pos hu']
theorem HZ {s:A8} (h:s.has.length=s.jf.length) (n:Int):JY s n=Cc s.has s.jf n:=by
 unfold JY Cc
 have h1:=CZ s.has n
 cases c:AZ s.has n with
 | false =>
  grind
 | true =>
  obtain ⟨k,e,hk,_,_⟩:=BV c
  rw [e,if_neg (by omega)];simp
def plN (t:A1) (s:A8) (n:Int):Int:=B5 s (t.at n.toNat).loc (if (t.at n.toNat).kind=2 then JY s n else n)
def DS (t:A1) (s:A8) (a b:Int):Bool:=E8 (t.at a.toNat) (t.at b.toNat) (plN t s a) (plN t s b)
def SH (t:A1) (s:A8):Bool:=BJ t s && (Bc (J9 t s.has s.jf)).all fun x=>DS t s x.1 x.2
theorem BC {t:A1} {s:A8} (h:BJ t s=true):Eo t s.has s.jf=true:=by
 simp only [BJ,and_eq_true,decide_eq_true_eq] at h
 obtain ⟨⟨⟨⟨⟨h1,h2⟩,h3⟩,h4⟩,h5⟩,h6⟩:=h
 simp only [C0,and_eq_true] at h1
 rw [Eo,decide_eq_true h2.symm]
 simp only [Bool.true_and,and_eq_true,Ag]
 constructor
 .simp_all [BY,Cm]
 .intro i hi
  have:=Ag.1 h4 i hi
  rw [Gi] at this
  rw [Lp]
  grind
theorem AiY {t:A1} {x f:List Int} (hF:CD t x f) {a b:Nat} (h:JW t x f a b=true):(a:Int)∈x/\(b:Int)∈x\/(∃ r,r∈x/\JF t x f r=true/\BG (BZ t x f (Cc x f r)) (a:Int)=true/\HC t x r b=true):=by
 simp only [JW,or_eq_true,and_eq_true,A7] at h
 rcases h with h | h
 .exact .inl h.1
 .rw [swB,List.any_eq_true] at h
  grind
theorem A0H {t:A1} {x:List Int} {r:Int} (hr:r∈x) {b:Nat} (h:HC t x r b=true):(b:Int)∈x/\((b:Int)=r\/(t.at b).kind=4/\At t r b=true):=by
 simp only [HC,or_eq_true,and_eq_true,decide_eq_true_eq,A7] at h
 grind
theorem Nr {t:A1} (ht:A5 t) {x f:List Int} (hF:CD t x f) {w:Int} (hw:w∈x) {a:Nat} (h:BG (BZ t x f w) (a:Int)=true) :
  ∃ j,(∀ i,i<=j->Dy t x f i w∈x)/\(a:Int)∈x/\((a:Int)=Dy t x f j w\/(t.at a).kind=4/\At t a (Dy t x f j w)=true):=by
 rw [Au] at h
 obtain ⟨j,_,h2,h3⟩:=(Ee _ _ _ _ _ _).1 h
 have hin:∀ i,i<=j->Dy t x f i w∈x:=fun i hi=>by
  rcases KG ht hF hw i (fun k hk=>h2 k (by omega)) with e | e
  .have:=h2 i hi
   rw [e] at this;cases this
  .exact e
 rw [LE,Aw,and_eq_true] at h3
 have h4:=h3.1
 simp only [Aa8,or_eq_true,and_eq_true,decide_eq_true_eq,A7] at h4
 grind
theorem Xs {t:A1} (ht:A5 t) {x f:List Int} (hF:CD t x f) {a b:Nat} (h:Gz (JW t x f) t.nodes.length a b):(a:Int)∈x/\(b:Int)∈x:=by
 have edge:∀ {a b:Nat},JW t x f a b=true->(a:Int)∈x/\(b:Int)∈x:=by
  intro a b h
  rcases AiY hF h with h | ⟨r,hr,hs,hh,he⟩
  .exact h
  .have hk:(t.at r.toNat).kind=2:=by simp_all [JF]
   obtain ⟨o1,_,_⟩:=hF.read r hr hk
   obtain ⟨_,_,h1,_⟩:=Nr ht hF o1 hh
   exact ⟨h1,(A0H hr he).1⟩
 induction h with
 | one hb h=>exact edge h
 | more h1 hc h2 ih=>exact ⟨ih.1,(edge h2).2⟩
theorem Ae9 {t:A1} {s:A8} {q v:Nat} (h:DS t s q v=true) (hq:(t.at q).kind=2) (hv:(t.at v).kind=3) {loc:Int} (h1:(t.at q).loc=loc) (h2:(t.at v).loc=loc):B5 s loc (JY s q) < B5 s loc v:=by
 grind [DS,E8,plN,toNat_natCast]
theorem A7A {t:A1} (ht:A5 t) {s:A8} (hlen:s.has.length=s.jf.length) (hF:CD t s.has s.jf) (good:∀ a b:Nat,a≠b->Gz (JW t s.has s.jf) t.nodes.length a b->DS t s a b=true) {w:Int} (hw:w∈s.has) (hk:(t.at w.toNat).kind=3) :
  ∀ j,(∀ i,i<=j->Dy t s.has s.jf i w∈s.has)->(t.at (Dy t s.has s.jf j w).toNat).kind=3/\(t.at (Dy t s.has s.jf j w).toNat).loc=(t.at w.toNat).loc/\B5 s (t.at w.toNat).loc (Dy t s.has s.jf j w)<=B5 s (t.at w.toNat).loc w:=by
 intro j
 induction j with
 | zero=>intro _;exact ⟨hk,rfl,Int.le_refl _⟩
 | succ j ih =>
  intro hin
  obtain ⟨k1,k2,k3⟩:=ih fun i hi=>hin i (by omega)
  have hv:=hin j (by omega)
  have hv':=hin (j+1) (Nat.le_refl _)
  rw [Dy] at hv'
  obtain ⟨v,hv1,hvn⟩:=Aa (hF.node _ hv)
  rw [Dy]
  rw [hv1] at hv hv' k1 k2 k3 ⊢
  rw [toNat_natCast] at k1 k2
  by_cases c:(t.at v).rmw=true/\AZ s.has (t.at v).up=true
  .have hah:ahF t s.has s.jf v=Cc s.has s.jf (t.at v).up:=by rw [ahF,toNat_natCast,if_pos c]
   obtain ⟨hl,hloc⟩:=ht.rmwLoc hvn c.1
   obtain ⟨hup0,hupk⟩:=(ht.good v hl hvn).rmw c.1
   have hupx:=A7.1 c.2
   obtain ⟨o1,o2,o3⟩:=hF.read _ hupx hupk
   rw [hah]
   refine ⟨o2,by rw [o3,hloc,k2],?_⟩
   obtain ⟨u,hu1⟩:=Int.eq_ofNat_of_zero_le hup0
   have hlt:=ht.up v hvn
   have hb:=Rx ht hvn hup0
   rw [hu1] at hb hupx hloc hupk
   rw [toNat_natCast] at hloc hupk
   have hp:Gz (JW t s.has s.jf) t.nodes.length u v:=.one hvn (by grind [JW,A7])
   have hok:=good u v (by omega) hp
   have hok:=Ae9 hok hupk k1 (hloc.trans k2) k2
   grind [HZ]
  .have hah:ahF t s.has s.jf v = -1:=by rw [ahF,toNat_natCast,if_neg c]
   rw [hah] at hv'
   obtain ⟨m,e,_⟩:=Aa (hF.node _ hv')
   omega
theorem Ad8 {t:A1} (ht:A5 t) {s:A8} (hlen:s.has.length=s.jf.length) (hF:CD t s.has s.jf) (good:∀ a b:Nat,a≠b->Gz (JW t s.has s.jf) t.nodes.length a b->DS t s a b=true) (w:Nat):¬ Gz (JW t s.has s.jf) t.nodes.length w w:=by
 intro hww
 have key:∀ b,Gz (JW t s.has s.jf) t.nodes.length w b->w < b\/∃ (h e:Nat) (r:Int),r∈s.has/\JF t s.has s.jf r=true/\BG (BZ t s.has s.jf (Cc s.has s.jf r)) (h:Int)=true/\HC t s.has r e=true/\(h=w\/Gz (JW t s.has s.jf) t.nodes.length w h)/\(e=b\/Gz (JW t s.has s.jf) t.nodes.length e b):=by
  intro b hb
  have split:∀ {a b:Nat},JW t s.has s.jf a b=true->At t a b=true\/∃ r,r∈s.has/\JF t s.has s.jf r=true/\BG (BZ t s.has s.jf (Cc s.has s.jf r)) (a:Int)=true/\HC t s.has r b=true:=by
   intro a b h
   simp only [JW,or_eq_true,and_eq_true,A7] at h
   rcases h with h | h
   .exact .inl h.2
   .rw [swB,List.any_eq_true] at h
    grind
  induction hb with
  | one hb h =>
   rename_i b
   rcases split h with h | ⟨r,h1,h2,h3,h4⟩
   .exact .inl (Ea ht h)
   grind
  | more hp hc h ih =>
   rename_i b c
   rcases ih with hlt | ⟨h',e,r,h1,h2,h3,h4,h5,h6⟩
   .rcases split h with h | ⟨r,h1,h2,h3,h4⟩
    .have:=Ea ht h
     exact .inl (by omega)
    grind
   .refine .inr ⟨h',e,r,h1,h2,h3,h4,h5,.inr ?_⟩
    rcases h6 with rfl | h6
    .exact .one hc h
    .exact .more h6 hc h
 rcases key w hww with h | ⟨h,e,r,h1,h2,h3,h4,h5,h6⟩
 .omega
 .have heh:e=h\/Gz (JW t s.has s.jf) t.nodes.length e h:=by
   rcases h6 with rfl | h6
   .grind
   .rcases h5 with rfl | h5
    .exact .inr h6
    .exact .inr (h6.trans h5)
  have hk:(t.at r.toNat).kind=2:=by simp_all [JF]
  obtain ⟨o1,o2,o3⟩:=hF.read r h1 hk
  obtain ⟨j,hin,hhx,hhead⟩:=Nr ht hF o1 h3
  obtain ⟨hex,hend⟩:=A0H h1 h4
  obtain ⟨w1,w2,w3⟩:=A7A ht hlen hF good o1 o2 j hin
  obtain ⟨v,hv1,hvn⟩:=Aa (hF.node _ (hin j (Nat.le_refl _)))
  have hvx:=hin j (Nat.le_refl _)
  obtain ⟨q,hq1,hqn⟩:=Aa (hF.node _ h1)
  rw [hv1] at hvx hhead w1 w2 w3
  rw [hq1] at h1 hk hend o1 o2 o3 w2 w3
  rw [toNat_natCast] at hk w1 w2 o3
  have hne:q≠v:=by intro e;rw [e] at hk;omega
  have hev:e=v\/Gz (JW t s.has s.jf) t.nodes.length e v:=by
   have hhv:h=v\/Gz (JW t s.has s.jf) t.nodes.length h v:=by
    rcases hhead with hh | hh
    .exact .inl (by omega)
    .exact .inr (.one hvn (by grind [JW,A7]))
   rcases heh with rfl | h7
   .exact hhv
   .rcases hhv with rfl | h8
    .exact .inr h7
    .exact .inr (h7.trans h8)
  have hqv:Gz (JW t s.has s.jf) t.nodes.length q v:=by
   rcases hend with he | he
   .have:e=q:=by omega
    grind
   .obtain ⟨e',he1,hen⟩:=Aa (hF.node _ hex)
    have:e' = e:=by omega
    subst this
    have hqe:Gz (JW t s.has s.jf) t.nodes.length q e':=.one hen (by grind [JW,A7])
    rcases hev with rfl | h8
    .exact hqe
    .exact hqe.trans h8
  have hok:=good q v hne hqv
  rw [o3] at w2 w3
  have hok:=Ae9 hok hk w1 rfl w2
  rw [HZ hlen] at hok
  omega
def DH (t:A1) (k:Nat):List Int:=((List.range k).filter fun i=>decide ((t.at i).up < 0)).map fun (i:Nat)=>(i:Int)
def AP (t:A1):A8:=⟨DH t t.nodes.length,List.replicate (DH t t.nodes.length).length (-1),(List.range t.locs.length).map fun (i:Nat)=>[[(i:Int)]]⟩
theorem A5V {t:A1} {k:Nat} (h:decide ((t.at k).up < 0)=true):DH t (k+1)=DH t k++[(k:Int)]:=by
 simp_all [DH,List.range_succ]
theorem A5U {t:A1} {k:Nat} (h:decide ((t.at k).up < 0)=false):DH t (k+1)=DH t k:=by
 grind [DH,List.range_succ]
theorem Mx {t:A1} (k:Nat):(DH t k).length<=k:=by
 grind [DH]
def Bn (l:List Int) (n:Int):Nat:=(l.takeWhile fun x=>decide (x < n)).length
def B9 (l:List Int) (k:Nat) (x:Int):List Int:=l.take k++x::l.drop k
theorem Du (l:List Int) (n:Int):Bn l n<=l.length:=(List.takeWhile_sublist _).length_le
theorem Th {l:List Int} {n:Int}:∀ {k:Nat},k < Bn l n->l.getD k 0 < n:=by
 induction l with
 | nil=>intro k h;simp [Bn] at h
 | cons x l ih =>
  intro k h
  unfold Bn at h
  rw [List.takeWhile_cons] at h
  by_cases c:x < n
  .simp only [c,decide_true,if_true,List.length_cons] at h
   cases k with
   | zero=>simpa using c
   | succ k =>
    grind [Bn]
  .simp [c] at h
theorem Ac8 {l:List Int} {n:Int} (h:Bn l n < l.length):¬ l.getD (Bn l n) 0 < n:=by
 induction l with
 | nil=>simp at h
 | cons x l ih =>
  unfold Bn at h ⊢
  rw [List.takeWhile_cons] at h ⊢
  by_cases c:x < n
  .simp_all [Bn]
  .simp [c]
theorem CK {l:List Int} {k:Nat} (h:k<=l.length) (x:Int):(B9 l k x).length=l.length+1:=by
 simp [B9];omega
def Cz (t:A1) (s:A8) (n kind:Int):Bool:=BJ t s && BF t n && decide ((t.at n.toNat).kind=kind) && !AZ s.has n && AZ s.has (t.at n.toNat).up
def C2 (s:A8) (n w:Int):A8:=⟨B9 s.has (Bn s.has n) n,B9 s.jf (Bn s.has n) w,s.mo⟩
structure Big (t:A1) (s:A8) (k:Nat):Prop where
 has:s.has.length<=64+k
 jf:s.jf.length<=64+k
 mo:s.mo.length=t.locs.length
 mi:∀ l∈s.mo,l≠[]/\l.length<=1+k
 mc:∀ l∈s.mo,∀ c∈l,c.length<=1+k
theorem Big.sz {t:A1} (ht:A5 t) {s:A8} {k:Nat} (h:Big t s k) (hk:k<=100):KZ s :=
 ⟨by have:=h.has;omega,by have:=h.jf;omega,by have:=h.mo;have:=ht.l4;omega,fun l hl=>by have:=(h.mi l hl).2;omega,fun l hl c hc=>by have:=h.mc l hl c hc;omega⟩
theorem Big.mono {t:A1} {s:A8} {k j:Nat} (h:Big t s k) (hk:k<=j):Big t s j :=
 ⟨by have:=h.has;omega,by have:=h.jf;omega,h.mo,fun l hl=>⟨(h.mi l hl).1,by have:=(h.mi l hl).2;omega⟩,fun l hl c hc=>by have:=h.mc l hl c hc;omega⟩
theorem A7l {t:A1} (ht:A5 t):Big t (AP t) 0:=by
 have h:=Mx (t:=t) t.nodes.length
 have h64:=ht.n64
 refine ⟨by show (DH t t.nodes.length).length<=64;omega,by show (List.replicate _ _).length<=64;rw [List.length_replicate];omega,by simp [AP],?_,?_⟩
 .intro l hl
  simp only [AP,List.mem_map] at hl
  obtain ⟨i,_,rfl⟩:=hl
  simp
 .intro l hl c hc
  simp only [AP,List.mem_map] at hl
  grind
theorem A9M {t:A1} {s:A8} {k:Nat} (h:Big t s k) (hj:s.jf.length=s.has.length) (n w:Int):Big t (C2 s n w) (k+1):=by
 have h1:=Du s.has n
 refine ⟨?_,?_,h.mo,fun l hl=>⟨(h.mi l hl).1,by have:=(h.mi l hl).2;omega⟩,fun l hl c hc=>by have:=h.mc l hl c hc;omega⟩
 .show (B9 s.has (Bn s.has n) n).length<=_
  rw [CK h1];have:=h.has;omega
 .show (B9 s.jf (Bn s.has n) w).length<=_
  rw [CK (by omega)];have:=h.jf;omega
end Go.AM
