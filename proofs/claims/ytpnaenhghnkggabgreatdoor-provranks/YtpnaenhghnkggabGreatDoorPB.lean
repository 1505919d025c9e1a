/-
  Own work, part of the proof of these laws: plain laws.
-/
import Derived.Test.YtpnaenhghnkggabGreatDoorPA
set_option maxRecDepth 10000
set_option maxHeartbeats 64000000
set_option linter.unusedVariables false
set_option linter.unusedSimpArgs false
set_option linter.unnecessarySimpa false
open Bool (and_eq_true or_eq_true)
open Int (toNat_natCast)
namespace Go.AM
open Go Go.Proofs
theorem Acq {t:A2} {x:List Int} (hx:Cq t x) {w:Int} (hw:w∈x) {a:Nat} (h:(MK t x w).getLsbD a=true):a < t.nodes.length:=by
 rw [MK,AE,and_eq_true] at h
 have h1:=h.1
 simp only [Aco,or_eq_true,and_eq_true,decide_eq_true_eq,Af] at h1
 have:(a:Int)∈x:=by
  grind
 obtain ⟨m,e,hm⟩:=A7 (hx _ this)
 omega
theorem Qx {t:A2} (ht:A9 t) {x f:List Int} (hF:CR t x f) {w:Int} (hw:w∈x) {a:Nat} (h:(AU t x f w).getLsbD a=true):a < t.nodes.length:=by
 obtain ⟨j,_,h2,h3⟩:=(HL _ _ _ _ _ _).1 h
 rcases LN ht hF hw j (fun k hk=>h2 k (by omega)) with e | e
 .have:=h2 j (Nat.le_refl _)
  rw [e] at this;cases this
 .exact Acq hF.node e h3
theorem A7x {t:A2} {x:List Int} (hx:Cq t x) {r:Int} (hr:r∈x) {b:Nat} (h:EE t x r b=true):b < t.nodes.length:=by
 simp only [EE,or_eq_true,and_eq_true,decide_eq_true_eq,Af] at h
 have:(b:Int)∈x:=by
  grind
 obtain ⟨m,e,hm⟩:=A7 (hx _ this)
 omega
theorem Tc {n a:Nat} (ha:a < n) (p:Nat->Nat->Bool) (q:Nat->Bool) (hq:∀ b,q b=true->b < n):((Aj n p).map eW).set a [vW ((BT fun b=>decide (b < n) && p a b) ||| BT q)]=(Aj n fun i b=>p i b || (decide (i=a) && q b)).map eW:=by
 rw [<- AcA ha p q hq,Ge ha,List.map_set]
theorem Tb {n a b:Nat} (ha:a < n) (hb:b < n) (hn:n<=64) (p:Nat->Nat->Bool):((Aj n p).map eW).set a [vW ((BT fun b=>decide (b < n) && p a b) ||| BK b)]=(Aj n fun i j=>p i j || (decide (i=a) && decide (j=b))).map eW:=by
 have:BK (b:Int)=BT fun j=>decide (j=b):=by
  apply Bm
  grind [Cb,AE]
 simp_all [Tc]
def Pw (t:A2) (x f:List Int) (L:List Int) (a b:Nat):Bool:=L.any fun r=>Jl t x f r && B1 (AU t x f (Ed x f r)) (a:Int) && EE t x r b
theorem AfJ {t:A2} {x f L:List Int} (h:∀ y,y∈L↔y∈x) (a b:Nat):Pw t x f L a b=swB t x f a b:=by
 unfold Pw swB
 grind
theorem A0Y {t:A2} {x f L:List Int} {k:Nat} (hk:k < L.length) (a b:Nat):Pw t x f (L.take (k+1)) a b=(Pw t x f (L.take k) a b || (Jl t x f (L.getD k 0) && B1 (AU t x f (Ed x f (L.getD k 0))) (a:Int) && EE t x (L.getD k 0) b)):=by
 grind [Pw,List.take_succ_eq_append_getElem]
def YQ (t:A2) (x f:List Int) (k:Nat):List Int:=(List.range t.nodes.length).map fun (n:Nat)=>Ed (x.take k) f (n:Int)
theorem Aci (t:A2) (x f:List Int):YQ t x f 0=List.replicate t.nodes.length (-1):=by
 apply List.ext_getElem
 .simp [YQ]
 grind [YQ,Ed,B9]
theorem Afr (t:A2) (x f:List Int):YQ t x f x.length=onL t x f:=by unfold YQ onL;rw [List.take_length]
theorem A6F {t:A2} {x f:List Int} {k:Nat}:(YQ t x f k).length=t.nodes.length:=by simp [YQ]
theorem Adc {l:List Int} {n:Int} (h:B9 l n=true) (m:List Int):Kv (l++m) n=Kv l n:=by
 have h':B9 (l++m) n=true:=Af.2 (List.mem_append_left _ (Af.1 h))
 obtain ⟨i,e1,i1,i2,i3⟩:=DD h
 obtain ⟨j,e2,j1,j2,j3⟩:=DD h'
 rw [e1,e2]
 have g:∀ k,k < l.length->(l++m).getD k 0=l.getD k 0:=fun k hk=>by grind
 grind
theorem Afs {t:A2} {x f:List Int} {k m:Nat} (hk:k < x.length) (hm:x.getD k 0=(m:Int)) (hmn:m < t.nodes.length) (hris:∀ i,i<=k->CN x i=true):((YQ t x f k).map eI).set m [.i .i64 (f.getD k 0)]=(YQ t x f (k+1)).map eI:=by
 have hlt:∀ i,i < k->x.getD i 0 < x.getD k 0:=by
  have:∀ j,j<=k->∀ i,i < j->x.getD i 0 < x.getD j 0:=by
   intro j
   induction j with
   | zero=>intro _ i h;omega
   | succ j ih =>
    intro hj i hi
    have:=hris (j+1) hj
    simp only [CN,or_eq_true,decide_eq_true_eq,Nat.add_sub_cancel] at this
    grind
  exact this k (Nat.le_refl _)
 have hnot:B9 (x.take k) (m:Int)=false:=by
  rw [<- Bool.not_eq_true,Af]
  grind [List.getElem_of_mem]
 have htk:x.take (k+1)=x.take k++[(m:Int)]:=by
  grind [List.take_succ_eq_append_getElem]
 have e0:((YQ t x f k).map eI).set m [.i .i64 (f.getD k 0)]=((YQ t x f k).set m (f.getD k 0)).map eI:=by rw [List.map_set]
 rw [e0]
 congr 1
 apply List.ext_getElem
 .simp [YQ]
 .intro i h1 h2
  have hi:i < t.nodes.length:=by simpa [YQ] using h2
  rw [List.getElem_set]
  by_cases c:m=i
  .subst c
   rw [if_pos rfl]
   simp only [YQ,List.getElem_map,List.getElem_range]
   unfold Ed
   have h3:B9 (x.take (k+1)) (m:Int)=true:=by rw [htk,Af];simp
   rw [if_pos h3]
   grind [DD]
  .rw [if_neg c]
   simp only [YQ,List.getElem_map,List.getElem_range]
   unfold Ed
   have c':¬ (i:Int)=(m:Int):=by omega
   have e:B9 (x.take (k+1)) (i:Int)=B9 (x.take k) (i:Int):=by
    rw [htk,Bool.eq_iff_iff,Af,Af,List.mem_append]
    simp [c']
   rw [e]
   by_cases c2:B9 (x.take k) (i:Int)=true
   .simp_all [Adc]
   .rw [if_neg c2,if_neg c2]
def hbF (t:A2) (x f:List Int):Rows:=if CL t x f=true then Lh t x f else []
inductive EO (p:Nat->Nat->Bool) (N:Nat) (a:Nat):Nat->Prop where
 | one {b:Nat} (hb:b < N) (h:p a b=true):EO p N a b
 | more {b c:Nat} (h1:EO p N a b) (hc:c < N) (h:p b c=true):EO p N a c
theorem EO.lt {p:Nat->Nat->Bool} {N a b:Nat} (h:EO p N a b):b < N:=by cases h<;>assumption
theorem EO.trans {p:Nat->Nat->Bool} {N a b c:Nat} (h:EO p N a b) (k:EO p N b c):EO p N a c:=by
 induction k with
 | one hb h2=>exact .more h hb h2
 | more _ hc h2 ih=>exact .more ih hc h2
open Classical in
theorem E3 {n:Nat} (hn:n<=64) (p:Nat->Nat->Bool) {a b:Nat} (ha:a < n):((Bz (Aj n p)).getD a 0#64).getLsbD b=true↔EO p n a b:=by
 have hl:(Aj n p).length<=64:=by rw [Al];exact hn
 have e:(Bz (Aj n p)).getD a 0#64=Eg (Aj n p) ((Aj n p).getD a 0#64):=by
  rw [Bz,Cm hn,if_pos rfl,List.getD_eq_getElem?_getD]
  simp [Al,ha]
 rw [e]
 have hc:=Qh hl ((Aj n p).getD a 0#64)
 have row:∀ i j,i < n->(((Aj n p).getD i 0#64).getLsbD j=true↔j < n/\p i j=true):=fun i j hi=>by
  rw [Ge hi,AE]
  grind
 constructor
 .intro h
  have:=hc.least (BT fun j=>decide (EO p n a j)) (fun j hj=>by
   obtain ⟨h1,h2⟩:=(row a j ha).1 hj
   rw [AE]
   simp only [and_eq_true,decide_eq_true_eq]
   exact ⟨.one h1 h2,by omega⟩) (fun y hy hs j hj=>by
   rw [Al] at hy
   obtain ⟨h1,h2⟩:=(row y j hy).1 hj
   rw [AE] at hs ⊢
   simp only [and_eq_true,decide_eq_true_eq] at hs ⊢
   exact ⟨.more hs.1 h1 h2,by omega⟩) b h
  simp_all [AE]
 .intro h
  induction h with
  | one hb h=>exact hc.sub _ ((row a _ ha).2 ⟨hb,h⟩)
  | more h1 hc' h2 ih=>exact hc.closed _ (by rw [Al];exact h1.lt) ih _ ((row _ _ h1.lt).2 ⟨hc',h2⟩)
theorem DB {n:Nat} (hn:n<=64) (p:Nat->Nat->Bool):(Bz (Aj n p)).length=n:=by
 rw [Bz,Cm hn,if_pos rfl];simp [Al]
theorem Acu {n:Nat} (hn:n<=64) (p:Nat->Nat->Bool):CX (Bz (Aj n p))=true:=by
 simp only [CX,and_eq_true,decide_eq_true_eq,List.all_eq_true,DB hn]
 refine ⟨hn,fun r hr=>?_⟩
 obtain ⟨i,hi,rfl⟩:=List.getElem_of_mem hr
 rw [DB hn] at hi
 apply Bm
 intro j hj
 rw [BitVec.getLsbD_and,BitVec.getLsbD_not,CG,AE]
 have e:(Bz (Aj n p))[i]=(Bz (Aj n p)).getD i 0#64:=by grind
 rw [e]
 cases hb:((Bz (Aj n p)).getD i 0#64).getLsbD j with
 | false=>simp
 | true =>
  have:=((E3 hn p hi).1 hb).lt
  simp [this,hj]
theorem KM {n:Nat} (hn:n<=64) (p:Nat->Nat->Bool) (x:Int×Int):x∈Bj (Bz (Aj n p))↔∃ a b:Nat,a < n/\x=((a:Int),(b:Int))/\EO p n a b:=by
 rw [Bj,Acu hn,if_pos rfl,DB hn,List.mem_flatMap]
 constructor
 .rintro ⟨a,ha,h⟩
  have ha':=List.mem_range.1 ha
  obtain ⟨j,hj,rfl⟩:=List.mem_map.1 h
  obtain ⟨h1,h2⟩:=Cu (B7.1 hj)
  obtain ⟨b,rfl⟩:=Int.eq_ofNat_of_zero_le h1
  have h3:=B7.1 hj
  rw [AD] at h3
  exact ⟨a,b,ha',rfl,(E3 hn p ha').1 h3⟩
 .rintro ⟨a,b,ha,rfl,h⟩
  refine ⟨a,List.mem_range.2 ha,List.mem_map.2 ⟨b,B7.2 ?_,rfl⟩⟩
  grind [AD,E3]
theorem GW.rmwLoc {t:A2}:∀ {n u e:Nat},GW t n u e->∀ m,u < m->m < e->(t.at m).rmw=true->(t.at (t.at m).up.toNat).loc=(t.at m).loc:=by
 intro n
 induction n with
 | zero=>grind [GW]
 | succ n ih =>
  intro u e h m h1 h2 hr
  obtain ⟨⟨_,ht,_⟩,h⟩:=h
  rcases h with ⟨_,_,rfl⟩ | ⟨c,_,_,al,hb⟩ | ⟨c,_,_,vals,k,loc,mode,_,_,hk0,hke,hloc,hs,_⟩
  .omega
  .by_cases e1:m=u+1
   .subst e1
    obtain ⟨p,q⟩:=JS c
    simp_all [D5]
   .exact ih hb m (by omega) h2 hr
  .obtain ⟨v,hv,a,b⟩:=Df (k:=k) (m:=m) vals (by omega) (by omega)
   obtain ⟨s1,s2,s3⟩:=hs v hv
   by_cases e1:m=k v
   .grind [E5]
   .exact ih s3 m (by omega) b hr
theorem A9.rmwLoc {t:A2} (h:A9 t) {m:Nat} (h2:m < t.nodes.length) (hr:(t.at m).rmw=true):t.locs.length<=m/\(t.at (t.at m).up.toNat).loc=(t.at m).loc:=by
 have h1:t.locs.length<=m:=by
  rcases Nat.lt_or_ge m t.locs.length with h1 | h1
  .have:=h.first.2 m h1
   simp_all [Hx]
  .exact h1
 refine ⟨h1,?_⟩
 obtain ⟨s,h0,he,hs⟩:=h.thr
 obtain ⟨v,hv,a,b⟩:=Df (k:=s) (m:=m) t.regs.length (by omega) (by omega)
 obtain ⟨hb,n,hn⟩:=hs v hv
 by_cases e1:m=s v
 .simp_all [DT]
 .exact hn.rmwLoc m (by omega) b hr
theorem Aho {t:A2} (hu:HZ t) {a:Nat}:∀ (n:Nat) (b:Nat),b < n->b < t.nodes.length->Az t a b=true->a < b:=by
 intro n
 induction n with
 | zero=>intro b h;omega
 | succ n ih =>
  intro b hbn hb h
  unfold Az at h
  have hub:=hu b hb
  rw [DU hu a (by omega)] at h
  by_cases c1:(t.at b).up < 0
  .rw [if_pos c1] at h;cases h
  .rw [if_neg c1] at h
   by_cases c2:(t.at b).up=a
   .omega
   .rw [if_neg c2] at h
    have:=ih (t.at b).up.toNat (by omega) (by omega) h
    omega
theorem KC {t:A2} (ht:A9 t) {a b:Nat} (h:Ah t a b=true):a < b:=by
 simp only [Ah,and_eq_true,toNat_natCast] at h
 obtain ⟨⟨h1,h2⟩,h3⟩:=h
 simp only [BU,and_eq_true,decide_eq_true_eq] at h1 h2
 by_cases c:(t.at a).thread < 0
 .rw [if_pos c,decide_eq_true_eq] at h3
  have k1:=(ht.thr_iff (m:=a) (by omega)).1 c
  have k2:¬ b < t.locs.length:=fun k=>by have:=(ht.thr_iff (m:=b) (by omega)).2 k;omega
  omega
 .rw [if_neg c] at h3
  exact Aho ht.up (b+1) b (by omega) (by omega) h3
theorem SD {t:A2} (ht:A9 t) {v:Nat} (hv:v < t.nodes.length) (hu:0<=(t.at v).up):Ah t (t.at v).up v=true:=by
 have hlt:=ht.up v hv
 obtain ⟨u,hu'⟩:=Int.eq_ofNat_of_zero_le hu
 have hul:u < t.nodes.length:=by omega
 have hl:t.locs.length<=v:=by
  rcases Nat.lt_or_ge v t.locs.length with h1 | h1
  .have:=(ht.init v h1).up;omega
  .exact h1
 have hg:=ht.good v hl hv
 have hp:=hg.par hu
 rw [hu',toNat_natCast] at hp
 have hth:=hg.thr
 rw [hu',Ah,Cl hul,Cl hv,toNat_natCast,toNat_natCast,if_neg (by omega)]
 simp only [Bool.true_and]
 unfold Az
 rw [DU ht.up u (by omega),if_neg (by omega),if_pos hu']
theorem K0 {s:A6} (h:s.has.length=s.jf.length) (n:Int):Li s n=Ed s.has s.jf n:=by
 unfold Li Ed
 have h1:=C7 s.has n
 cases c:B9 s.has n with
 | false =>
  grind
 | true =>
  obtain ⟨k,e,hk,_,_⟩:=DD c
  rw [e,if_neg (by omega)];simp
def plN (t:A2) (s:A6) (n:Int):Int:=BQ s (t.at n.toNat).loc (if (t.at n.toNat).kind=2 then Li s n else n)
def plR (t:A2) (s:A6) (n:Int):Int:=if (t.at n.toNat).kind=3 then BQ s (t.at n.toNat).loc n else if (t.at n.toNat).kind=2 then BQ s (t.at n.toNat).loc (Li s n) else 0
theorem A6K (t:A2) (s:A6) (a b:Int):DA (t.at a.toNat) (t.at b.toNat) (plR t s a) (plR t s b)=DA (t.at a.toNat) (t.at b.toNat) (plN t s a) (plN t s b):=by
 grind [DA,plR,plN]
def Uv (t:A2) (x f:List Int) (a b:Int):Bool:=B1 ((Lh t x f).getD a.toNat 0#64) b
def Kc (t:A2) (s:A6) (a b:Int):Bool:=DA (t.at a.toNat) (t.at b.toNat) (plN t s a) (plN t s b)
def L3 (t:A2) (s:A6):Bool:=Bd t s && (Bj (Lh t s.has s.jf)).all fun x=>Kc t s x.1 x.2
def Mt (t:A2) (s:A6):Bool:=(List.range s.has.length).all fun i=>(List.range s.has.length).all fun k=>decide (i=k) || !Uv t s.has s.jf (s.has.getD i 0) (s.has.getD k 0) || DA (t.at (s.has.getD i 0).toNat) (t.at (s.has.getD k 0).toNat) (plR t s (s.has.getD i 0)) (plR t s (s.has.getD k 0))
theorem B3 {t:A2} {s:A6} (h:Bd t s=true):CL t s.has s.jf=true:=by
 simp only [Bd,and_eq_true,decide_eq_true_eq] at h
 obtain ⟨⟨⟨⟨⟨h1,h2⟩,h3⟩,h4⟩,h5⟩,h6⟩:=h
 simp only [C8,and_eq_true] at h1
 rw [CL,decide_eq_true h2.symm]
 simp only [Bool.true_and,and_eq_true,Aw]
 constructor
 .simp_all [C6,Bh]
 .intro i hi
  have:=Aw.1 h4 i hi
  rw [GD] at this
  rw [DW]
  grind
theorem Am4 {t:A2} {x f:List Int} (hF:CR t x f) {a b:Nat} (h:Mv t x f a b=true):(a:Int)∈x/\(b:Int)∈x\/(∃ r,r∈x/\Jl t x f r=true/\B1 (AU t x f (Ed x f r)) (a:Int)=true/\EE t x r b=true):=by
 simp only [Mv,or_eq_true,and_eq_true,Af] at h
 rcases h with h | h
 .exact .inl h.1
 .rw [swB,List.any_eq_true] at h
  grind
theorem A9s {t:A2} {x:List Int} {r:Int} (hr:r∈x) {b:Nat} (h:EE t x r b=true):(b:Int)∈x/\((b:Int)=r\/(t.at b).kind=4/\Ah t r b=true):=by
 simp only [EE,or_eq_true,and_eq_true,decide_eq_true_eq,Af] at h
 grind
theorem A5r {t:A2} (ht:A9 t) {x f:List Int} (hF:CR t x f) {w:Int} (hw:w∈x) {a:Nat} (h:B1 (AU t x f w) (a:Int)=true) :
  ∃ j,(∀ i,i<=j->HH t x f i w∈x)/\(a:Int)∈x/\((a:Int)=HH t x f j w\/(t.at a).kind=4/\Ah t a (HH t x f j w)=true):=by
 rw [AD] at h
 obtain ⟨j,_,h2,h3⟩:=(HL _ _ _ _ _ _).1 h
 have hin:∀ i,i<=j->HH t x f i w∈x:=fun i hi=>by
  rcases LN ht hF hw i (fun k hk=>h2 k (by omega)) with e | e
  .have:=h2 i hi
   rw [e] at this;cases this
  .exact e
 rw [MK,AE,and_eq_true] at h3
 have h4:=h3.1
 simp only [Aco,or_eq_true,and_eq_true,decide_eq_true_eq,Af] at h4
 grind
theorem A4e {t:A2} (ht:A9 t) {x f:List Int} (hF:CR t x f) {a b:Nat} (h:EO (Mv t x f) t.nodes.length a b):(a:Int)∈x/\(b:Int)∈x:=by
 have edge:∀ {a b:Nat},Mv t x f a b=true->(a:Int)∈x/\(b:Int)∈x:=by
  intro a b h
  rcases Am4 hF h with h | ⟨r,hr,hs,hh,he⟩
  .exact h
  .have hk:(t.at r.toNat).kind=2:=by simp_all [Jl]
   obtain ⟨o1,_,_⟩:=hF.read r hr hk
   obtain ⟨_,_,h1,_⟩:=A5r ht hF o1 hh
   exact ⟨h1,(A9s hr he).1⟩
 induction h with
 | one hb h=>exact edge h
 | more h1 hc h2 ih=>exact ⟨ih.1,(edge h2).2⟩
theorem Agy {t:A2} {s:A6} {q v:Nat} (h:Kc t s q v=true) (hq:(t.at q).kind=2) (hv:(t.at v).kind=3) {loc:Int} (h1:(t.at q).loc=loc) (h2:(t.at v).loc=loc):BQ s loc (Li s q) < BQ s loc v:=by
 grind [Kc,DA,plN,toNat_natCast]
theorem A8u {t:A2} (ht:A9 t) {s:A6} (hlen:s.has.length=s.jf.length) (hF:CR t s.has s.jf) (good:∀ a b:Nat,a≠b->EO (Mv t s.has s.jf) t.nodes.length a b->Kc t s a b=true) {w:Int} (hw:w∈s.has) (hk:(t.at w.toNat).kind=3) :
  ∀ j,(∀ i,i<=j->HH t s.has s.jf i w∈s.has)->(t.at (HH t s.has s.jf j w).toNat).kind=3/\(t.at (HH t s.has s.jf j w).toNat).loc=(t.at w.toNat).loc/\BQ s (t.at w.toNat).loc (HH t s.has s.jf j w)<=BQ s (t.at w.toNat).loc w:=by
 intro j
 induction j with
 | zero=>intro _;exact ⟨hk,rfl,Int.le_refl _⟩
 | succ j ih =>
  intro hin
  obtain ⟨k1,k2,k3⟩:=ih fun i hi=>hin i (by omega)
  have hv:=hin j (by omega)
  have hv':=hin (j+1) (Nat.le_refl _)
  rw [HH] at hv'
  obtain ⟨v,hv1,hvn⟩:=A7 (hF.node _ hv)
  rw [HH]
  rw [hv1] at hv hv' k1 k2 k3 ⊢
  rw [toNat_natCast] at k1 k2
  by_cases c:(t.at v).rmw=true/\B9 s.has (t.at v).up=true
  .have hah:ahF t s.has s.jf v=Ed s.has s.jf (t.at v).up:=by rw [ahF,toNat_natCast,if_pos c]
   obtain ⟨hl,hloc⟩:=ht.rmwLoc hvn c.1
   obtain ⟨hup0,hupk⟩:=(ht.good v hl hvn).rmw c.1
   have hupx:=Af.1 c.2
   obtain ⟨o1,o2,o3⟩:=hF.read _ hupx hupk
   rw [hah]
   refine ⟨o2,by rw [o3,hloc,k2],?_⟩
   obtain ⟨u,hu1⟩:=Int.eq_ofNat_of_zero_le hup0
   have hlt:=ht.up v hvn
   have hb:=SD ht hvn hup0
   rw [hu1] at hb hupx hloc hupk
   rw [toNat_natCast] at hloc hupk
   have hp:EO (Mv t s.has s.jf) t.nodes.length u v:=.one hvn (by grind [Mv,Af])
   have hok:=good u v (by omega) hp
   have hok:=Agy hok hupk k1 (hloc.trans k2) k2
   grind [K0]
  .have hah:ahF t s.has s.jf v = -1:=by rw [ahF,toNat_natCast,if_neg c]
   rw [hah] at hv'
   obtain ⟨m,e,_⟩:=A7 (hF.node _ hv')
   omega
theorem Afm {t:A2} (ht:A9 t) {s:A6} (hlen:s.has.length=s.jf.length) (hF:CR t s.has s.jf) (good:∀ a b:Nat,a≠b->EO (Mv t s.has s.jf) t.nodes.length a b->Kc t s a b=true) (w:Nat):¬ EO (Mv t s.has s.jf) t.nodes.length w w:=by
 intro hww
 have key:∀ b,EO (Mv t s.has s.jf) t.nodes.length w b->w < b\/∃ (h e:Nat) (r:Int),r∈s.has/\Jl t s.has s.jf r=true/\B1 (AU t s.has s.jf (Ed s.has s.jf r)) (h:Int)=true/\EE t s.has r e=true/\(h=w\/EO (Mv t s.has s.jf) t.nodes.length w h)/\(e=b\/EO (Mv t s.has s.jf) t.nodes.length e b):=by
  intro b hb
  have split:∀ {a b:Nat},Mv t s.has s.jf a b=true->Ah t a b=true\/∃ r,r∈s.has/\Jl t s.has s.jf r=true/\B1 (AU t s.has s.jf (Ed s.has s.jf r)) (a:Int)=true/\EE t s.has r b=true:=by
   intro a b h
   simp only [Mv,or_eq_true,and_eq_true,Af] at h
   rcases h with h | h
   .exact .inl h.2
   .rw [swB,List.any_eq_true] at h
    grind
  induction hb with
  | one hb h =>
   rename_i b
   rcases split h with h | ⟨r,h1,h2,h3,h4⟩
   .exact .inl (KC ht h)
   grind
  | more hp hc h ih =>
   rename_i b c
   rcases ih with hlt | ⟨h',e,r,h1,h2,h3,h4,h5,h6⟩
   .rcases split h with h | ⟨r,h1,h2,h3,h4⟩
    .have:=KC ht h
     exact .inl (by omega)
    grind
   .refine .inr ⟨h',e,r,h1,h2,h3,h4,h5,.inr ?_⟩
    rcases h6 with rfl | h6
    .exact .one hc h
    .exact .more h6 hc h
 rcases key w hww with h | ⟨h,e,r,h1,h2,h3,h4,h5,h6⟩
 .omega
 .have heh:e=h\/EO (Mv t s.has s.jf) t.nodes.length e h:=by
   rcases h6 with rfl | h6
   .grind
   .rcases h5 with rfl | h5
    .exact .inr h6
    .exact .inr (h6.trans h5)
  have hk:(t.at r.toNat).kind=2:=by simp_all [Jl]
  obtain ⟨o1,o2,o3⟩:=hF.read r h1 hk
  obtain ⟨j,hin,hhx,hhead⟩:=A5r ht hF o1 h3
  obtain ⟨hex,hend⟩:=A9s h1 h4
  obtain ⟨w1,w2,w3⟩:=A8u ht hlen hF good o1 o2 j hin
  obtain ⟨v,hv1,hvn⟩:=A7 (hF.node _ (hin j (Nat.le_refl _)))
  have hvx:=hin j (Nat.le_refl _)
  obtain ⟨q,hq1,hqn⟩:=A7 (hF.node _ h1)
  rw [hv1] at hvx hhead w1 w2 w3
  rw [hq1] at h1 hk hend o1 o2 o3 w2 w3
  rw [toNat_natCast] at hk w1 w2 o3
  have hne:q≠v:=by intro e;rw [e] at hk;omega
  have hev:e=v\/EO (Mv t s.has s.jf) t.nodes.length e v:=by
   have hhv:h=v\/EO (Mv t s.has s.jf) t.nodes.length h v:=by
    rcases hhead with hh | hh
    .exact .inl (by omega)
    .exact .inr (.one hvn (by grind [Mv,Af]))
   rcases heh with rfl | h7
   .exact hhv
   .rcases hhv with rfl | h8
    .exact .inr h7
    .exact .inr (h7.trans h8)
  have hqv:EO (Mv t s.has s.jf) t.nodes.length q v:=by
   rcases hend with he | he
   .have:e=q:=by omega
    grind
   .obtain ⟨e',he1,hen⟩:=A7 (hF.node _ hex)
    have:e' = e:=by omega
    subst this
    have hqe:EO (Mv t s.has s.jf) t.nodes.length q e':=.one hen (by grind [Mv,Af])
    rcases hev with rfl | h8
    .exact hqe
    .exact hqe.trans h8
  have hok:=good q v hne hqv
  rw [o3] at w2 w3
  have hok:=Agy hok hk w1 rfl w2
  rw [K0 hlen] at hok
  omega
theorem A9f (t:A2) (ht:A9 t) (s:A6):L3 t s=(Bd t s && Mt t s):=by
 unfold L3
 cases hf:Bd t s with
 | false=>rfl
 | true =>
 simp only [Bool.true_and]
 have hfr:=B3 hf
 have hF:=Ba hfr
 have h64:=ht.n64
 have hlen:=hF.len
 have hbat:∀ a b:Nat,a < t.nodes.length->(Uv t s.has s.jf a b=true↔EO (Mv t s.has s.jf) t.nodes.length a b):=fun a b ha=>by
  grind [Uv,AD,Lh,E3]
 have good_iff:Mt t s=true↔∀ a b:Nat,a≠b->EO (Mv t s.has s.jf) t.nodes.length a b->Kc t s a b=true:=by
  unfold Mt
  constructor
  .intro h a b hab hp
   obtain ⟨ha,hb⟩:=A4e ht hF hp
   obtain ⟨i,hi,hi'⟩:=List.getElem_of_mem ha
   obtain ⟨k,hk,hk'⟩:=List.getElem_of_mem hb
   have:=Aw.1 (Aw.1 h i hi) k hk
   have ei:s.has.getD i 0=(a:Int):=by grind
   have ek:s.has.getD k 0=(b:Int):=by grind
   rw [ei,ek,A6K] at this
   simp only [or_eq_true,decide_eq_true_eq,Bool.not_eq_true'] at this
   obtain ⟨a',e,ha'⟩:=A7 (hF.node _ ha)
   have hbt:=(hbat a b (by omega)).2 hp
   rcases this with (h | h) | h
   .grind
   .rw [hbt] at h;cases h
   .exact h
  .intro h
   rw [Aw]
   intro i hi
   rw [Aw]
   intro k hk
   rw [A6K]
   simp only [or_eq_true,decide_eq_true_eq,Bool.not_eq_true']
   by_cases e:i=k
   .exact .inl (.inl e)
   .obtain ⟨a,ha1,ha⟩:=A7 (hF.node _ (Ac (d:=0) hi))
    obtain ⟨b,hb1,hb⟩:=A7 (hF.node _ (Ac (d:=0) hk))
    rw [ha1,hb1]
    cases hh:Uv t s.has s.jf a b with
    | false=>exact .inl (.inr rfl)
    | true =>
     refine .inr (h a b ?_ ((hbat a b ha).1 hh))
     intro eab
     have h1:=MF hF.nd hi
     have h2:=MF hF.nd hk
     grind
 rw [Bool.eq_iff_iff,good_iff,List.all_eq_true]
 constructor
 .intro h a b hab hp
  obtain ⟨ha,hb⟩:=A4e ht hF hp
  obtain ⟨a',e,ha'⟩:=A7 (hF.node _ ha)
  have:=h ((a:Int),(b:Int)) ((KM h64 _ _).2 ⟨a,b,by omega,rfl,hp⟩)
  exact this
 .intro h x hx
  obtain ⟨a,b,ha,rfl,hp⟩:=(KM h64 _ _).1 hx
  grind [Afm]
def DM (t:A2) (k:Nat):List Int:=((List.range k).filter fun i=>decide ((t.at i).up < 0)).map fun (i:Nat)=>(i:Int)
def BF (t:A2):A6:=⟨DM t t.nodes.length,List.replicate (DM t t.nodes.length).length (-1),(List.range t.locs.length).map fun (i:Nat)=>[[(i:Int)]]⟩
theorem A6V {t:A2} {k:Nat} (h:decide ((t.at k).up < 0)=true):DM t (k+1)=DM t k++[(k:Int)]:=by
 simp_all [DM,List.range_succ]
theorem A6U {t:A2} {k:Nat} (h:decide ((t.at k).up < 0)=false):DM t (k+1)=DM t k:=by
 grind [DM,List.range_succ]
theorem NF {t:A2} (k:Nat):(DM t k).length<=k:=by
 grind [DM]
def C4 (l:List Int) (n:Int):Nat:=(l.takeWhile fun x=>decide (x < n)).length
def CA (l:List Int) (k:Nat) (x:Int):List Int:=l.take k++x::l.drop k
theorem G9 (l:List Int) (n:Int):C4 l n<=l.length:=(List.takeWhile_sublist _).length_le
theorem My {l:List Int} {n:Int}:∀ {k:Nat},k < C4 l n->l.getD k 0 < n:=by
 induction l with
 | nil=>intro k h;simp [C4] at h
 | cons x l ih =>
  intro k h
  unfold C4 at h
  rw [List.takeWhile_cons] at h
  by_cases c:x < n
  .simp only [c,decide_true,if_true,List.length_cons] at h
   cases k with
   | zero=>simpa using c
   | succ k =>
    grind [C4]
  .simp [c] at h
theorem Aei {l:List Int} {n:Int} (h:C4 l n < l.length):¬ l.getD (C4 l n) 0 < n:=by
 induction l with
 | nil=>simp at h
 | cons x l ih =>
  unfold C4 at h ⊢
  rw [List.takeWhile_cons] at h ⊢
  by_cases c:x < n
  .simp_all [C4]
  .simp [c]
theorem GB {l:List Int} {k:Nat} (h:k<=l.length) (x:Int):(CA l k x).length=l.length+1:=by
 simp [CA];omega
def Ct (t:A2) (s:A6) (n kind:Int):Bool:=Bd t s && BU t n && decide ((t.at n.toNat).kind=kind) && !B9 s.has n && B9 s.has (t.at n.toNat).up
def Bo (s:A6) (n w:Int):A6:=⟨CA s.has (C4 s.has n) n,CA s.jf (C4 s.has n) w,s.mo⟩
structure Big (t:A2) (s:A6) (k:Nat):Prop where
 has:s.has.length<=64+k
 jf:s.jf.length<=64+k
 mo:s.mo.length=t.locs.length
 mi:∀ l∈s.mo,l≠[]/\l.length<=1+k
 mc:∀ l∈s.mo,∀ c∈l,c.length<=1+k
theorem Big.sz {t:A2} (ht:A9 t) {s:A6} {k:Nat} (h:Big t s k) (hk:k<=100):El s :=
 ⟨by have:=h.has;omega,by have:=h.jf;omega,by have:=h.mo;have:=ht.l4;omega,fun l hl=>by have:=(h.mi l hl).2;omega,fun l hl c hc=>by have:=h.mc l hl c hc;omega⟩
theorem Big.mono {t:A2} {s:A6} {k j:Nat} (h:Big t s k) (hk:k<=j):Big t s j :=
 ⟨by have:=h.has;omega,by have:=h.jf;omega,h.mo,fun l hl=>⟨(h.mi l hl).1,by have:=(h.mi l hl).2;omega⟩,fun l hl c hc=>by have:=h.mc l hl c hc;omega⟩
theorem A8g {t:A2} (ht:A9 t):Big t (BF t) 0:=by
 have h:=NF (t:=t) t.nodes.length
 have h64:=ht.n64
 refine ⟨by show (DM t t.nodes.length).length<=64;omega,by show (List.replicate _ _).length<=64;rw [List.length_replicate];omega,by simp [BF],?_,?_⟩
 .intro l hl
  simp only [BF,List.mem_map] at hl
  obtain ⟨i,_,rfl⟩:=hl
  simp
 .intro l hl c hc
  simp only [BF,List.mem_map] at hl
  grind
theorem Abv {t:A2} {s:A6} {k:Nat} (h:Big t s k) (hj:s.jf.length=s.has.length) (n w:Int):Big t (Bo s n w) (k+1):=by
 have h1:=G9 s.has n
 refine ⟨?_,?_,h.mo,fun l hl=>⟨(h.mi l hl).1,by have:=(h.mi l hl).2;omega⟩,fun l hl c hc=>by have:=h.mc l hl c hc;omega⟩
 .show (CA s.has (C4 s.has n) n).length<=_
  rw [GB h1];have:=h.has;omega
 .show (CA s.jf (C4 s.has n) w).length<=_
  rw [GB (by omega)];have:=h.jf;omega
end Go.AM
