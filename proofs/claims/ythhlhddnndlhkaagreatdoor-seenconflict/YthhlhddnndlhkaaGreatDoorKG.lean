/-
  Own work, part of the proof of the laws SeenLasts, SeenCalm, SeenConflict: what the answers have in common.
-/
import Derived.Test.YthhlhddnndlhkaaGreatDoorKF
import Derived.Test.YthhlhddnndlhkaaGreatDoorKE
set_option maxRecDepth 4000
set_option linter.unusedVariables false
set_option linter.unusedSimpArgs false
set_option linter.unusedSectionVars false
set_option linter.unnecessarySimpa false
namespace Go.AM
open Go Go.Proofs
theorem Ze {t:A2} {s:A5} (hf:AZ t s) {w:Int} (hw:w∈s.has) (hk:(t.at w.toNat).kind=3) (ht:A8 t):0≤(t.at w.toNat).loc∧(t.at w.toNat).loc < s.mo.length∧0≤Bd s (t.at w.toNat).loc w∧Bd s (t.at w.toNat).loc w < (s.mo.getD (t.at w.toNat).loc.toNat []).length ∧
  w∈(s.mo.getD (t.at w.toNat).loc.toNat []).getD (Bd s (t.at w.toNat).loc w).toNat []:=by
 obtain ⟨m,rfl,hm⟩:=Aa (hf.node w hw)
 rw [Int.toNat_natCast] at hk ⊢
 have hl:=ht.wloc hm (.inr hk)
 have hml:=hf.ml
 obtain ⟨loc,hloc⟩:=Int.eq_ofNat_of_zero_le hl.1
 have ho:=hf.once _ hw (by rw [Int.toNat_natCast];exact hk)
 rw [Int.toNat_natCast] at ho
 rw [hloc] at ho hl ⊢
 rw [Int.toNat_natCast] at ho ⊢
 have hany:(s.mo.getD loc []).any (fun c=>B2 c (m:Int))=true:=by
  rw [List.any_eq_true]
  obtain ⟨c,hc⟩:=List.exists_mem_of_length_pos (show 0 < ((s.mo.getD loc []).filter fun c=>B2 c (m:Int)).length by omega)
  obtain ⟨h1,h2⟩:=List.mem_filter.1 hc
  exact ⟨c,h1,h2⟩
 obtain ⟨k,e,hk2,hp,_⟩:=Jc hany
 have hpl:Bd s (loc:Int) (m:Int)=(k:Int):=by
  rw [Bd,if_neg (by omega),Int.toNat_natCast];exact e
 rw [hpl,Int.toNat_natCast]
 refine ⟨by omega,by omega,by omega,by omega,?_⟩
 rw [List.getD_eq_getElem?_getD,List.getElem?_eq_getElem hk2]
 exact A9.1 hp
theorem A6I {t:A2} {s:A5} (hf:AZ t s) (ht:A8 t) {loc:Nat} (hl:loc < s.mo.length) {c:List Int} (hc:c∈s.mo.getD loc []) {x:Int} (hx:x∈c):BI t x=true:=by
 have hm:=hf.mo loc hl
 simp only [DH,Bool.and_eq_true,Ah,Bool.or_eq_true,decide_eq_true_eq] at hm
 obtain ⟨⟨_,h0⟩,h1⟩:=hm
 obtain ⟨i,hi,rfl⟩:=List.getElem_of_mem hc
 have hd:(s.mo.getD loc [])[i]=(s.mo.getD loc []).getD i []:=by rw [List.getD_eq_getElem?_getD (l:=s.mo.getD loc []),List.getElem?_eq_getElem hi];rfl
 rw [hd] at hx
 rcases h1 i hi with e | e
 ·rw [e,h0] at hx
  rw [List.mem_singleton.1 hx]
  have:=hf.ml
  have:=ht.first.1
  exact BN (by omega)
 ·simp only [Cb,Bool.and_eq_true,Ah,Bg,A9] at e
  obtain ⟨j,hj,rfl⟩:=List.getElem_of_mem hx
  have:=(e.2 j hj).1.1.1.1
  rw [List.getD_eq_getElem?_getD,List.getElem?_eq_getElem hj] at this
  exact hf.node _ this
theorem Pj {t:A2} {s:A5} (hf:AZ t s) (ht:A8 t):QT t s:=by
 refine ⟨fun r=>?_⟩
 have hF:=Cf (BP (By.2 hf))
 rw [Jf hF.len]
 by_cases hr:(r:Int)∈s.has
 ·by_cases hk:(t.at r).kind=2
  ·obtain ⟨h1,h2,h3⟩:=hF.read r hr (by rw [Int.toNat_natCast];exact hk)
   obtain ⟨w,hw,hwn⟩:=Aa (hf.node _ h1)
   rw [hw] at h1 h2 ⊢
   obtain ⟨a1,a2,a3,a4,a5⟩:=Ze hf h1 h2 ht
   rw [Int.toNat_natCast] at a1 a2 a3 a4 a5
   refine .inr ⟨w,rfl,hwn,a1,a2,a3,a4,fun c hc=>?_⟩
   refine A6I hf ht (loc:=(t.at w).loc.toNat) (by omega) (Ap (d:=[]) (k:=(Bd s (t.at w).loc w).toNat) (by omega)) hc
  ·left
   rw [hF.none r hr (by rw [Int.toNat_natCast];exact hk)];decide
 ·left
  rw [Ho,if_neg fun h=>hr (A9.1 h)];decide
def A6b (t:A2) (s:A5):Prop:=∀ a∈s.has,∀ b∈s.has,AN t a b=false
theorem Aeu {t:A2} (ht:A8 t) {s:A5} (hf:AZ t s) {e a:Nat} (he:(e:Int)∈s.has) (h:V3 t s e a=true):(a:Int)∈s.has:=by
 have hF:=Cf (BP (By.2 hf))
 simp only [V3,Bool.or_eq_true,decide_eq_true_eq] at h
 rcases h with h | rfl
 ·have hn:a < t.nodes.length:=by
   rcases Nat.lt_or_ge a t.nodes.length with c | c
   ·exact c
   ·have hl:(hbM t s.has s.jf).length=t.nodes.length:=Jj ht.n64 _
    rw [Zn,List.getD_eq_getElem?_getD,List.getElem?_eq_none (by omega)] at h
    simp at h
  exact (AaV ht hF ((G0 ht.n64 _ hn).1 h)).1
 ·exact he
theorem TN {t:A2} (ht:A8 t) {s:A5} (hf:AZ t s) (hc:A6b t s) {a b:Nat} (ha:(a:Int)∈s.has) (hb:(b:Int)∈s.has):DB t s a b=false:=by
 have h64:=ht.n64
 obtain ⟨_,ha',han⟩:=Aa (hf.node _ ha)
 obtain ⟨_,hb',hbn⟩:=Aa (hf.node _ hb)
 rw [DB,PZ,Bool.not_eq_false',decide_eq_true_eq]
 apply Bp
 intro j hj
 rw [BitVec.getLsbD_and]
 have hz:(0#64).getLsbD j=false:=by simp
 rw [hz,Bool.eq_false_iff]
 intro h
 rw [Bool.and_eq_true] at h
 obtain ⟨h1,h2⟩:=h
 have hl:(R8 t).length=t.nodes.length:=Al
 obtain ⟨i,hi,q1,q2⟩:=(Je (a:=R8 t) (by omega) _ j).1 h1
 rw [dnR,List.getD_eq_getElem?_getD,Bi (by omega),Option.getD_some,At] at q1 h2
 rw [R8,List.getD_eq_getElem?_getD,Bi (by omega),Option.getD_some,At] at q2
 simp only [Bool.and_eq_true,decide_eq_true_eq] at q1 q2 h2
 have m1:=Aeu ht hf ha q1.1.2
 have m2:=Aeu ht hf hb h2.1.2
 rw [hc _ m1 _ m2] at q2
 simp at q2
theorem A8i {t:A2} (ht:A8 t) {s:A5} (hf:AZ t s) (hc:A6b t s) {e:Nat} (he:(e:Int)∈s.has):Y6 t s e=true:=by
 rw [Y6,TN ht hf hc he he];rfl
theorem YP {t:A2} (ht:A8 t) {s:A5} (hf:AZ t s) (hc:A6b t s) {e:Nat} (he:(e:Int)∈s.has):N0 t s e=true:=by
 have hF:=Cf (BP (By.2 hf))
 obtain ⟨e',he',hen⟩:=Aa (hf.node _ he)
 have he':e=e':=by omega
 subst he'
 rw [N0,Abt,List.all_eq_true]
 intro r hr
 rw [Bool.not_eq_true',Vq]
 obtain ⟨h1,h2⟩:=DE (BQ.1 hr)
 obtain ⟨r,rfl⟩:=Int.eq_ofNat_of_zero_le h1
 rw [Int.toNat_natCast]
 simp only [Jf hF.len]
 by_cases hm:(r:Int)∈s.has
 ·by_cases hk:(t.at r).kind=2
  ·obtain ⟨k1,_,_⟩:=hF.read r hm (by rw [Int.toNat_natCast];exact hk)
   obtain ⟨w,hw,hwn⟩:=Aa (hf.node _ k1)
   rw [hw] at k1 ⊢
   rw [Int.toNat_natCast]
   split
   ·rfl
   ·have:Bv ((R8 t).getD w 0#64) (e:Int)=false:=by
     rw [R8,Jm ht.n64 hwn hen];exact hc _ k1 _ he
    rw [this,Bool.false_and]
  ·rw [hF.none r hm (by rw [Int.toNat_natCast];exact hk),if_pos (.inl (by decide))]
 ·rw [Ho,if_neg fun h=>hm (A9.1 h),if_pos (.inl (by decide))]
theorem A6s {t:A2} (ht:A8 t) {s:A5} (hf:AZ t s) (hc:A6b t s):Ab5 t s=Cj s.has:=by
 rw [Ab5,List.filter_eq_self.2]
 intro x hx
 obtain ⟨m,rfl,hm⟩:=Aa (hf.node _ hx)
 rw [Int.toNat_natCast];exact YP ht hf hc hx
theorem A8h {t:A2} (ht:A8 t) {s:A5} (hf:AZ t s) (hc:A6b t s):Eo t s=Ar t.nodes.length fun _ _=>false:=by
 refine Ds fun a b _ _=>?_
 cases h1:B2 s.has (a:Int) with
 | false=>rfl
 | true =>
 cases h2:B2 s.has (b:Int) with
 | false=>rfl
 | true=>rw [TN ht hf hc (A9.1 h1) (A9.1 h2)];rfl
theorem A3Q {t:A2} (ht:A8 t) {a b:Nat}:∀ (N u:Nat),u < N→u < t.nodes.length→AA t a u=true→AA t b u=true→a=b∨AA t a b=true∨AA t b a=true
 | 0,u,h,_,_,_=>by omega
 | N+1,u,hN,hu,h1,h2=>by
  by_cases c:(t.at u).up < 0
  ·unfold AA at h1
   rw [Ec ht.up a (by have:=ht.up u hu;omega),if_pos c] at h1
   cases h1
  ·obtain ⟨m,hm⟩:=Int.eq_ofNat_of_zero_le (show 0≤(t.at u).up by omega)
   have hlt:=ht.up u hu
   rw [J7 ht.up hu hm,Bool.or_eq_true,decide_eq_true_eq] at h1 h2
   rcases h1 with h1 | h1
   ·rcases h2 with h2 | h2
    ·exact .inl (by omega)
    ·rw [h1] at h2;exact .inr (.inr h2)
   ·rcases h2 with h2 | h2
    ·rw [h2] at h1;exact .inr (.inl h1)
    ·exact A3Q ht N m (by omega) (by omega) h1 h2
theorem A7x {t:A2} (ht:A8 t) {s:A5} (hf:AZ t s) {at_:List Nat} (S:StI t s at_):A6b t s:=by
 intro a ha b hb
 obtain ⟨x,rfl,hx⟩:=Aa (hf.node _ ha)
 obtain ⟨y,rfl,hy⟩:=Aa (hf.node _ hb)
 rw [Bool.eq_false_iff]
 intro h
 simp only [AN,Bool.and_eq_true,Bool.not_eq_true',decide_eq_true_eq,decide_eq_false_iff_not,Int.toNat_natCast] at h
 obtain ⟨⟨⟨⟨⟨_,h1⟩,h2⟩,h3⟩,h4⟩,h5⟩:=h
 obtain ⟨u,hu,hut⟩:=S.cov x ha h2
 have hul:u < t.nodes.length:=by
  obtain ⟨m,e,hm⟩:=Aa (hf.node _ (S.has u hu).1)
  omega
 have c1:=S.chain u hu x ha hut.symm
 have c2:=S.chain u hu y hb (by rw [hut,h3])
 have hne:x≠y:=fun e=>h1 (by rw [e])
 rcases c1 with c1 | c1
 ·rcases c2 with c2 | c2
  ·exact hne (by omega)
  ·rw [c1,c2] at h5;cases h5
 ·rcases c2 with c2 | c2
  ·rw [c2,c1] at h4;cases h4
  ·rcases A3Q ht _ u (Nat.lt_succ_self _) hul c1 c2 with e | e | e
   ·exact hne e
   ·rw [e] at h4;cases h4
   ·rw [e] at h5;cases h5
theorem A8p {t:A2} (ht:A8 t) {A B:BitVec 64}:PZ t A B=true↔∃ x y:Nat,x < t.nodes.length∧y < t.nodes.length∧A.getLsbD x=true∧B.getLsbD y=true∧AN t x y=true:=by
 have h64:=ht.n64
 have hl:(R8 t).length=t.nodes.length:=Al
 rw [PZ,Bool.not_eq_true',decide_eq_false_iff_not]
 constructor
 ·intro h
  apply Classical.byContradiction
  intro hno
  apply h
  apply Bp
  intro j hj
  rw [BitVec.getLsbD_and,show (0#64).getLsbD j=false by simp,Bool.eq_false_iff]
  intro hc
  rw [Bool.and_eq_true] at hc
  obtain ⟨i,hi,q1,q2⟩:=(Je (a:=R8 t) (by omega) _ j).1 hc.1
  rw [R8,List.getD_eq_getElem?_getD,Bi (by omega),Option.getD_some,At] at q2
  simp only [Bool.and_eq_true,decide_eq_true_eq] at q2
  exact hno ⟨i,j,by omega,by omega,q1,hc.2,q2.1.2⟩
 ·rintro ⟨x,y,hx,hy,h1,h2,h3⟩ h0
  have:(DM (R8 t) A &&& B).getLsbD y=true:=by
   rw [BitVec.getLsbD_and,h2,Bool.and_true]
   refine (Je (a:=R8 t) (by omega) _ y).2 ⟨x,by omega,h1,?_⟩
   have:=Jm h64 hx hy (p:=fun a b=>AN t a b)
   rw [AS] at this
   rw [R8,this];exact h3
  rw [h0] at this
  simp at this
theorem QA {t:A2} (ht:A8 t) {s:A5} {e a:Nat} (he:e < t.nodes.length):((dnR t s).getD e 0#64).getLsbD a=true↔a < t.nodes.length∧V3 t s e a=true:=by
 have h64:=ht.n64
 rw [dnR,List.getD_eq_getElem?_getD,Bi he,Option.getD_some,At]
 simp only [Bool.and_eq_true,decide_eq_true_eq]
 constructor
 ·rintro ⟨⟨h1,h2⟩,_⟩;exact ⟨h1,h2⟩
 ·rintro ⟨h1,h2⟩;exact ⟨⟨h1,h2⟩,by omega⟩
theorem JC {t:A2} (ht:A8 t) {s:A5} {a b:Nat} (ha:a < t.nodes.length) (hb:b < t.nodes.length):DB t s a b=true↔∃ x y:Nat,x < t.nodes.length∧y < t.nodes.length∧V3 t s a x=true∧V3 t s b y=true∧AN t x y=true:=by
 rw [DB,A8p ht]
 constructor
 ·rintro ⟨x,y,hx,hy,h1,h2,h3⟩
  exact ⟨x,y,hx,hy,((QA ht ha).1 h1).2,((QA ht hb).1 h2).2,h3⟩
 ·rintro ⟨x,y,hx,hy,h1,h2,h3⟩
  exact ⟨x,y,hx,hy,(QA ht ha).2 ⟨hx,h1⟩,(QA ht hb).2 ⟨hy,h2⟩,h3⟩
theorem UT {t:A2} {a b:Int} (h:AN t a b=true):AN t b a=true:=by
 simp only [AN,Bool.and_eq_true,Bool.not_eq_true',decide_eq_true_eq,decide_eq_false_iff_not] at h ⊢
 obtain ⟨⟨⟨⟨⟨⟨h0,h1⟩,h2⟩,h3⟩,h4⟩,h5⟩,h6⟩:=h
 exact ⟨⟨⟨⟨⟨⟨h1,h0⟩,fun e=>h2 e.symm⟩,by omega⟩,h4.symm⟩,h6⟩,h5⟩
theorem A8z {t:A2} (ht:A8 t) {s:A5} {a b:Nat} (ha:a < t.nodes.length) (hb:b < t.nodes.length):DB t s a b=DB t s b a:=by
 have key:∀ {a b:Nat},a < t.nodes.length→b < t.nodes.length→DB t s a b=true→DB t s b a=true:=fun ha hb h=>by
  obtain ⟨x,y,hx,hy,h1,h2,h3⟩:=(JC ht ha hb).1 h
  exact (JC ht hb ha).2 ⟨y,x,hy,hx,h2,h1,UT h3⟩
 rw [Bool.eq_iff_iff]
 exact ⟨key ha hb,key hb ha⟩
theorem YV {t:A2} (ht:A8 t) {s:A5} {a b:Nat} (ha:a < t.nodes.length) (hb:b < t.nodes.length) (h:AN t a b=true):DB t s a b=true :=
 (JC ht ha hb).2 ⟨a,b,ha,hb,by simp [V3],by simp [V3],h⟩
theorem QD {t:A2} (ht:A8 t) {s:A5} {a b:Nat} (ha:a < t.nodes.length):Zn t s a b=true↔N7 (U1 t s.has s.jf) t.nodes.length a b:=G0 ht.n64 _ ha
theorem Ajv {t:A2} (ht:A8 t) {s:A5} {u b y:Nat} (hb:b < t.nodes.length) (hu:(t.at b).up=u) (mu:(u:Int)∈s.has) (mb:(b:Int)∈s.has) (hy:y < t.nodes.length) (h:V3 t s u y=true):V3 t s b y=true:=by
 have hul:u < t.nodes.length:=by have:=ht.up b hb;omega
 have hbf:=TK ht hb (by omega)
 rw [hu] at hbf
 have h1:N7 (U1 t s.has s.jf) t.nodes.length u b:=.one hb (by simp only [U1,Bool.or_eq_true,Bool.and_eq_true,A9];exact .inl ⟨⟨mu,mb⟩,hbf⟩)
 simp only [V3,Bool.or_eq_true,decide_eq_true_eq] at h ⊢
 left
 rw [QD ht hy]
 rcases h with h | h
 ·exact ((QD ht hy).1 h).trans h1
 ·rw [← h];exact h1
theorem Afw {t:A2} (ht:A8 t) {s:A5} {a u b:Nat} (ha:a < t.nodes.length) (hb:b < t.nodes.length) (hu:(t.at b).up=u) (mu:(u:Int)∈s.has) (mb:(b:Int)∈s.has) (h:DB t s a u=true):DB t s a b=true:=by
 have hul:u < t.nodes.length:=by have:=ht.up b hb;omega
 obtain ⟨x,y,hx,hy,h1,h2,h3⟩:=(JC ht ha hul).1 h
 exact (JC ht ha hb).2 ⟨x,y,hx,hy,h1,Ajv ht hb hu mu mb hy h2,h3⟩
theorem Rv {t:A2} (ht:A8 t) {s:A5} (hf:AZ t s) {n:Nat} (hn:n < t.nodes.length) (hu:(t.at n).up < 0):(n:Int)∈s.has:=by
 have h64:=ht.n64
 have hb:(Gc t).getLsbD n=true:=by rw [Gc,At];simp [hn,hu];omega
 have:(Cj s.has).getLsbD n=true:=by rw [← hf.init,BitVec.getLsbD_or,hb];rfl
 have h2:=LG s.has (x:=(n:Int)) (by omega) (by omega)
 rw [AS,this] at h2
 exact A9.1 h2.symm
theorem Acv {t:A2} (ht:A8 t) {s:A5} (hf:AZ t s) {loc:Nat} (hl:loc < s.mo.length) {c:List Int} (hc:c∈s.mo.getD loc []) {x:Int} (hx:x∈c):x∈s.has:=by
 have hm:=hf.mo loc hl
 simp only [DH,Bool.and_eq_true,Ah,Bool.or_eq_true,decide_eq_true_eq] at hm
 obtain ⟨⟨_,h0⟩,h1⟩:=hm
 obtain ⟨i,hi,rfl⟩:=List.getElem_of_mem hc
 have hd:(s.mo.getD loc [])[i]=(s.mo.getD loc []).getD i []:=by rw [List.getD_eq_getElem?_getD (l:=s.mo.getD loc []),List.getElem?_eq_getElem hi];rfl
 rw [hd] at hx
 rcases h1 i hi with e | e
 ·rw [e,h0] at hx
  rw [List.mem_singleton.1 hx]
  have:=hf.ml
  have:=ht.first.1
  exact Rv ht hf (by omega) (by rw [(ht.init loc (by omega)).up];decide)
 ·simp only [Cb,Bool.and_eq_true,Ah,Bg,A9] at e
  obtain ⟨j,hj,rfl⟩:=List.getElem_of_mem hx
  have:=(e.2 j hj).1.1.1.1
  rw [List.getD_eq_getElem?_getD,List.getElem?_eq_getElem hj] at this
  exact this
theorem A6J {t:A2} {s:A5} (h:AZ t s) {n:Int} (hn:BI t n=true) (hno:n∉s.has) (hup:(t.at n.toNat).up∈s.has) (hk:(t.at n.toNat).kind=3) (ht:0≤(t.at n.toNat).thread) {loc k:Nat} (hl:(t.at n.toNat).loc=loc) (hll:loc < s.mo.length) (k1:1≤k) (k2:k≤(s.mo.getD loc []).length)
  (hin:∀ c∈s.mo.getD loc [],∀ x∈c,x∈s.has):AZ t { AQ s n (-1) with mo:=s.mo.set loc ((s.mo.getD loc []).take k++[n]::(s.mo.getD loc []).drop k) }:=by
 have sub:∀ x,x∈s.has→x∈B3 s.has (Ba s.has n) n:=fun x hx=>BD.2 (.inr hx)
 obtain ⟨L,hL⟩:∃ L,L=s.mo.getD loc []:=⟨_,rfl⟩
 have hm:=h.mo loc hll
 rw [← hL] at k2 hin ⊢
 have hself:(s.mo.set loc (L.take k++[n]::L.drop k)).getD loc []=L.take k++[n]::L.drop k:=by rw [List.getD_eq_getElem?_getD (l:=s.mo.set _ _),List.getElem?_set,if_pos rfl,if_pos hll];rfl
 have hoth:∀ j,j≠loc→(s.mo.set loc (L.take k++[n]::L.drop k)).getD j []=s.mo.getD j []:=fun j hj=>by rw [List.getD_eq_getElem?_getD (l:=s.mo.set _ _),List.getElem?_set,if_neg (Ne.symm hj),← List.getD_eq_getElem?_getD]
 have hcls:Cb t [n] (B3 s.has (Ba s.has n) n) loc=true:=by
  simp only [Cb,Bool.and_eq_true,Ah,Bg,A9,List.length_singleton]
  refine ⟨rfl,fun i hi=>?_⟩
  obtain rfl:i=0:=by omega
  refine ⟨⟨⟨⟨BD.2 (.inl rfl),rfl⟩,?_⟩,decide_eq_true ht⟩,fun k hk=>by omega⟩
  simp [HM,hk,hl]
 have hfil:∀ p:List Int→Bool,((L.take k++[n]::L.drop k).filter p).length=(L.filter p).length+(if p [n]=true then 1 else 0):=fun p=>by
  have e:L.filter p=(L.take k).filter p++(L.drop k).filter p:=by rw [← List.filter_append,List.take_append_drop]
  rw [e,List.filter_append,List.filter_cons,List.length_append,List.length_append]
  split
  ·rw [List.length_cons];omega
  ·omega
 have C7:∀ i,i≠k→(L.take k++[n]::L.drop k).getD i []=L.getD (if i < k then i else i - 1) []:=fun i hi=>by
  have e:=GT (y:=[n]) (d:=([]:List Int)) L k (if i < k then i else i - 1) k2
  by_cases c:i < k
  ·rw [if_pos c] at e ⊢
   rwa [if_pos c] at e
  ·rw [if_neg c] at e ⊢
   rwa [if_neg (show ¬ i - 1 < k by omega),show i - 1+1=i by omega] at e
 have hgk:(L.take k++[n]::L.drop k).getD k []=[n]:=by
  rw [List.getD_eq_getElem?_getD,List.getElem?_append_right (by rw [List.length_take];omega),List.length_take,Nat.min_eq_left k2];simp
 refine Ph h hn hno hup (by simp [okJ,hk]) (by rw [List.length_set]) ?_ ?_ ?_
 ·intro j hj
  by_cases c:j=loc
  ·subst c
   simp only [DH,hself,← hL,Bool.and_eq_true,Ah,Bool.or_eq_true,Bool.not_eq_true',decide_eq_true_eq,decide_eq_false_iff_not] at hm ⊢
   obtain ⟨⟨m1,m2⟩,m3⟩:=hm
   refine ⟨⟨by simp,?_⟩,fun i hi=>?_⟩
   ·rw [C7 0 (by omega),if_pos (by omega)];exact m2
   ·by_cases ci:i=k
    ·rw [ci,hgk];exact .inr hcls
    ·rw [C7 i ci]
     have hi':i < L.length+1:=by
      rw [List.length_append,List.length_cons,List.length_take,List.length_drop] at hi
      omega
     by_cases c:i < k
     ·rw [if_pos c]
      rcases m3 i (by omega) with c | c
      ·exact .inl c
      ·exact .inr (E0 sub c)
     ·rw [if_neg c]
      rcases m3 (i - 1) (by omega) with d | d
      ·omega
      ·exact .inr (E0 sub d)
  ·have hm:=h.mo j hj
   simp only [DH,hoth j c,Bool.and_eq_true,Ah,Bool.or_eq_true] at hm ⊢
   refine ⟨hm.1,fun i hi=>?_⟩
   rcases hm.2 i hi with d | d
   ·exact .inl d
   ·exact .inr (E0 sub d)
 ·intro x hx kx
  by_cases c:(t.at x.toNat).loc.toNat=loc
  ·rw [c,hself,hfil,← hL]
   have:B2 [n] x=false:=Bool.eq_false_iff.2 fun d=>hno (by rw [← List.mem_singleton.1 (A9.1 d)];exact hx)
   rw [this];simp
  ·rw [hoth _ c]
 ·intro _
  rw [hl,Int.toNat_natCast,hself,hfil]
  have e:L.filter (fun c=>B2 c n)=[]:=by
   rw [List.filter_eq_nil_iff]
   intro c hc d
   exact hno (hin c hc n (A9.1 d))
  rw [e]
  simp [B2]
structure Nxt (t:A2) (s s':A5) (n:Nat):Prop where
 has:∀ x,x∈s'.has↔x=(n:Int)∨x∈s.has
 no:(n:Int)∉s.has
 nl:n < t.nodes.length
 up:(t.at n).up∈s.has
 ext:Ext t s s'
 form:AZ t s'
 src:(t.at n).kind=2→Ho s'.has s'.jf n∈s.has
 cls:∀ loc,∀ c∈s.mo.getD loc [],∃ c'∈s'.mo.getD loc [],∀ x∈c,x∈c'
theorem JR {t:A2} {s s':A5} {n kind w:Int} (e:CL t s n kind w=some s'):∃ m:Nat,n=m∧m < t.nodes.length∧(t.at m).kind=kind∧(m:Int)∉s.has∧(t.at m).up∈s.has∧s' = AQ s m w:=by
 unfold CL at e
 split at e
 ·rename_i hok
  cases e
  simp only [C4,Bool.and_eq_true,Bool.not_eq_true',decide_eq_true_eq] at hok
  obtain ⟨⟨⟨⟨_,h1⟩,h2⟩,h3⟩,h4⟩:=hok
  obtain ⟨m,rfl,hm⟩:=Aa h1
  rw [Int.toNat_natCast] at h2 h4
  exact ⟨m,rfl,hm,h2,(fun c=>by rw [A9.2 c] at h3;exact absurd h3 (by decide)),A9.1 h4,rfl⟩
 ·cases e
theorem Ac5 {t:A2} {s s':A5} (hf:AZ t s) {n:Int} (e:CL t s n 4 (-1)=some s'):∃ m,Nxt t s s' m:=by
 obtain ⟨m,rfl,hm,hk,hno,hup,rfl⟩:=JR e
 have hf':AZ t (AQ s m (-1)):=Pi hf (BN hm) hno (by rw [Int.toNat_natCast];exact hup) (by simp [okJ,hk]) (by rw [Int.toNat_natCast];omega)
 exact ⟨m,fun x=>BD,hno,hm,hup,(EZ e).1,hf',fun c=>by omega,fun loc c hc=>⟨c,hc,fun _ h=>h⟩⟩
theorem AaY {t:A2} {s s':A5} (hf:AZ t s) {n w:Int} (e:HF t s n w=some s'):∃ m,Nxt t s s' m:=by
 have he:=(AaX e).1
 unfold HF at e
 split at e
 ·rename_i x hx
  split at e
  ·rename_i hfx
   cases e
   obtain ⟨m,rfl,hm,hk,hno,hup,rfl⟩:=JR hx
   have hf':=By.1 hfx
   refine ⟨m,fun x=>BD,hno,hm,hup,he,hf',fun _=>?_,fun loc c hc=>⟨c,hc,fun _ h=>h⟩⟩
   have hF':=Cf (BP hfx)
   obtain ⟨a,b,_⟩:=hF'.read m (BD.2 (.inl rfl)) (by rw [Int.toNat_natCast];exact hk)
   rcases BD.1 a with h | h
   ·rw [h,Int.toNat_natCast] at b;omega
   ·exact h
  ·cases e
 ·cases e
theorem UJ {t:A2} (ht:A8 t) {s s':A5} (hf:AZ t s) {n w:Int} (e:DZ t s n w=some s'):∃ m,Nxt t s s' m:=by
 have he:=(UI e).1
 unfold DZ at e
 split at e
 ·rename_i x hx
  split at e
  ·cases e
  ·rename_i hw
   cases e
   obtain ⟨m,rfl,hm,hk,hno,hup,rfl⟩:=JR hx
   have hl:=ht.wloc hm (.inr hk)
   obtain ⟨loc,hloc⟩:=Int.eq_ofNat_of_zero_le hl.1
   have hml:=hf.ml
   have hth:0≤(t.at m).thread:=by
    rcases Int.lt_or_le (t.at m).thread 0 with c | c
    ·have h1:=(ht.thr_iff hm).1 c
     have:=(ht.init m h1).up
     have:=hf.node _ hup
     simp only [BI,Bool.and_eq_true,decide_eq_true_eq] at this
     omega
    ·exact c
   simp only [Int.toNat_natCast,hloc] at he hw ⊢
   have hw:¬ (w < 1∨((s.mo.getD loc []).length:Int) < w):=hw
   have hin:∀ c∈s.mo.getD loc [],∀ x∈c,x∈s.has:=fun c hc x hx=>Acv ht hf (by omega) hc hx
   have hf':=A6J hf (n:=(m:Int)) (BN hm) hno (by rw [Int.toNat_natCast];exact hup) (by rw [Int.toNat_natCast];exact hk) (by rw [Int.toNat_natCast];exact hth) (loc:=loc) (k:=w.toNat) (by rw [Int.toNat_natCast];exact hloc) (by omega) (by omega) (by omega) hin
   refine ⟨m,fun x=>BD,hno,hm,hup,he,hf',fun c=>by omega,fun l c hc=>⟨c,?_,fun _ h=>h⟩⟩
   show c∈(s.mo.set loc _).getD l []
   by_cases cl:l=loc
   ·subst cl
    rw [List.getD_eq_getElem?_getD (l:=s.mo.set _ _),List.getElem?_set,if_pos rfl,if_pos (by omega)]
    have:c∈(s.mo.getD l []).take w.toNat++(s.mo.getD l []).drop w.toNat:=by rw [List.take_append_drop];exact hc
    rw [List.mem_append] at this
    simp only [Option.getD_some,List.mem_append,List.mem_cons]
    rcases this with h | h
    ·exact .inl h
    ·exact .inr (.inr h)
   ·rw [List.getD_eq_getElem?_getD (l:=s.mo.set _ _),List.getElem?_set,if_neg (Ne.symm cl),← List.getD_eq_getElem?_getD];exact hc
 ·cases e
theorem A9O {t:A2} {s s':A5} (hf:AZ t s) {n w:Int} (e:M4 t s n w=some s'):∃ m,Nxt t s s' m:=by
 have he:=(A9N e).1
 unfold M4 at e
 split at e
 ·rename_i x hx
  simp only at e
  split at e
  ·cases e
  ·rename_i hw
   split at e
   ·rename_i hfx
    cases e
    obtain ⟨m,rfl,hm,hk,hno,hup,rfl⟩:=JR hx
    have hf':=By.1 hfx
    refine ⟨m,fun x=>BD,hno,hm,hup,he,hf',fun c=>by omega,fun l c hc=>?_⟩
    simp only [Int.toNat_natCast] at hw ⊢
    show ∃ c'∈(s.mo.set (t.at m).loc.toNat _).getD l [],∀ x∈c,x∈c'
    by_cases cl:(t.at m).loc.toNat=l
    ·subst cl
     by_cases hll:(t.at m).loc.toNat < s.mo.length
     ·rw [List.getD_eq_getElem?_getD (l:=s.mo.set _ _),List.getElem?_set,if_pos rfl,if_pos hll,Option.getD_some]
      obtain ⟨i,hi,rfl⟩:=List.getElem_of_mem hc
      refine ⟨((s.mo.getD (t.at m).loc.toNat []).set w.toNat _)[i]'(by rw [List.length_set];exact hi),List.getElem_mem _,fun x hx=>?_⟩
      rw [List.getElem_set]
      split
      ·rename_i h
       subst h
       refine BD.2 (.inr ?_)
       show x∈(s.mo.getD (t.at m).loc.toNat []).getD w.toNat []
       rw [List.getD_eq_getElem?_getD (l:=s.mo.getD _ _),List.getElem?_eq_getElem hi];exact hx
      ·exact hx
     ·rw [List.getD_eq_getElem?_getD,List.getElem?_eq_none (by omega)] at hc
      cases hc
    ·rw [List.getD_eq_getElem?_getD (l:=s.mo.set _ _),List.getElem?_set,if_neg cl,← List.getD_eq_getElem?_getD]
     exact ⟨c,hc,fun _ h=>h⟩
   ·cases e
 ·cases e
theorem A01 {t:A2} (ht:A8 t) {s s':A5} (hf:AZ t s) {a b:Nat} (e:Ji t s a b=some s'):∃ m,Nxt t s s' m:=by
 unfold Ji at e
 simp only at e
 split at e
 ·cases e
 ·split at e
  ·exact Ac5 hf e
  ·split at e
   ·split at e
    ·cases e
    ·exact AaY hf e
   ·split at e
    ·split at e
     ·rename_i s2 hj
      cases e;exact A9O hf hj
     ·exact UJ ht hf e
    ·exact UJ ht hf e
theorem GI {t:A2} (ht:A8 t) (m:List U8):∀ k,AZ t (Cz t m k)
 | 0=>Y7 ht
 | k+1=>by
  have ih:=GI ht m k
  cases e:Ji t (Cz t m k) (Pc m (2 * k)) (Pc m (2 * k+1)) with
  | none=>rw [Lt e];exact ih
  | some s'=>rw [Lu e];obtain ⟨n,h⟩:=A01 ht ih e;exact h.form
theorem A7Z {t:A2} (ht:A8 t) {s:A5} (hf:AZ t s) {a:Nat}:∀ (N b:Nat),b < N→(b:Int)∈s.has→AA t a b=true→(a:Int)∈s.has
 | 0,b,h,_,_=>by omega
 | N+1,b,hN,hb,h=>by
  obtain ⟨b',e,hbn⟩:=Aa (hf.node _ hb)
  have e:b=b':=by omega
  subst e
  have hlt:=ht.up b hbn
  rcases Int.lt_or_le (t.at b).up 0 with c | c
  ·unfold AA at h
   rw [Ec ht.up a (by omega),if_pos c] at h
   cases h
  ·obtain ⟨m,hm⟩:=Int.eq_ofNat_of_zero_le c
   have hu:=hf.up _ hb
   rw [Int.toNat_natCast] at hu
   have hmi:(m:Int)∈s.has:=by
    rcases hu with hu | hu
    ·omega
    ·rw [← hm];exact hu
   rw [J7 ht.up hbn hm,Bool.or_eq_true,decide_eq_true_eq] at h
   rcases h with h | h
   ·rw [← h];exact hmi
   ·exact A7Z ht hf N m (by omega) hmi h
theorem AaE {t:A2} (ht:A8 t) {s s':A5} (hf:AZ t s) {n:Nat} (X:Nxt t s s' n) (b:Nat) (hb:(b:Int)∈s.has):AE t n b=false:=by
 rw [Bool.eq_false_iff]
 intro h
 have hup:=hf.node _ X.up
 simp only [BI,Bool.and_eq_true,decide_eq_true_eq] at hup
 have hth:¬ (t.at n).thread < 0:=fun c=>by
  have h1:=(ht.thr_iff X.nl).1 c
  have:=(ht.init n h1).up
  omega
 simp only [AE,Bool.and_eq_true,Int.toNat_natCast] at h
 rw [if_neg hth] at h
 exact X.no (A7Z ht hf _ b (Nat.lt_succ_self _) hb h.2)
theorem L9 {t:A2} (ht:A8 t) {s:A5} (hf:AZ t s) {a b:Nat}:Cl t s s.has.length b a=true↔(a:Int)∈s.has∧(((b:Int)∈s.has∧AE t b a=true)∨Ho s.has s.jf a=b):=by
 have h64:=ht.n64
 have hF:=Cf (BP (By.2 hf))
 have hn:CH t s.has:=hf.node
 have hh:=fun (x:Nat)=>hn.has h64 (x:Int)
 simp only [Cl,hh,Bool.or_eq_true,Bool.and_eq_true,List.any_eq_true,List.mem_range,decide_eq_true_eq,A9]
 constructor
 ·rintro (⟨⟨h1,h2⟩,h3⟩ | ⟨i,hi,h1,h2⟩)
  ·exact ⟨h2,.inl ⟨h1,h3⟩⟩
  ·have hm:=Ap (d:=0) hi
   have:=hF.at_ i hi
   rw [h2,h1] at this
   rw [h2] at hm
   exact ⟨hm,.inr this⟩
 ·rintro ⟨h1,⟨h2,h3⟩ | h2⟩
  ·exact .inl ⟨⟨h2,h1⟩,h3⟩
  ·obtain ⟨i,hi,e⟩:=List.getElem_of_mem h1
   have hg:s.has.getD i 0=(a:Int):=by rw [List.getD_eq_getElem?_getD,List.getElem?_eq_getElem hi];exact e
   have:=hF.at_ i hi
   rw [hg,h2] at this
   exact .inr ⟨i,hi,this.symm,hg⟩
theorem A3S {t:A2} {s:A5} (hf:AZ t s) (ht:A8 t) {w:Nat} (hw:(w:Int)∈s.has) (hk:(t.at w).kind=3):YQ t s w∈s.mo.getD (t.at w).loc.toNat []∧(w:Int)∈YQ t s w:=by
 obtain ⟨a1,a2,a3,a4,a5⟩:=Ze hf hw (by rw [Int.toNat_natCast];exact hk) ht
 rw [Int.toNat_natCast] at a1 a2 a3 a4 a5
 exact ⟨Ap (d:=[]) (k:=(Bd s (t.at w).loc w).toNat) (by omega),a5⟩
theorem A8l {t:A2} {s:A5} (hf:AZ t s) (ht:A8 t) {w:Nat} (hw:(w:Int)∈s.has) (hk:(t.at w).kind=3) {c:List Int} (hc:c∈s.mo.getD (t.at w).loc.toNat []) (hm:(w:Int)∈c):c=YQ t s w:=by
 obtain ⟨h1,h2⟩:=A3S hf ht hw hk
 have ho:=hf.once _ hw (by rw [Int.toNat_natCast];exact hk)
 rw [Int.toNat_natCast] at ho
 have m1:c∈(s.mo.getD (t.at w).loc.toNat []).filter fun c=>B2 c (w:Int):=List.mem_filter.2 ⟨hc,A9.2 hm⟩
 have m2:YQ t s w∈(s.mo.getD (t.at w).loc.toNat []).filter fun c=>B2 c (w:Int):=List.mem_filter.2 ⟨h1,A9.2 h2⟩
 obtain ⟨x,hx⟩:=List.length_eq_one_iff.1 ho
 rw [hx] at m1 m2
 rw [List.mem_singleton.1 m1,List.mem_singleton.1 m2]
structure Lst (t:A2) (s s':A5):Prop where
 has:∀ x,x∈s.has→x∈s'.has
 on:∀ x,x∈s.has→Ho s'.has s'.jf x=Ho s.has s.jf x
 dn:∀ e a:Nat,(e:Int)∈s.has→a < t.nodes.length→V3 t s' e a=V3 t s e a
 vis:∀ e:Nat,(e:Int)∈s.has→N0 t s e=true→N0 t s' e=true
theorem Lst.refl (t:A2) (s:A5):Lst t s s:=⟨fun _ h=>h,fun _ _=>rfl,fun _ _ _ _=>rfl,fun _ _ h=>h⟩
theorem Lst.trans {t:A2} {a b c:A5} (h:Lst t a b) (k:Lst t b c):Lst t a c :=
 ⟨fun x hx=>k.has x (h.has x hx),fun x hx=>(k.on x (h.has x hx)).trans (h.on x hx),fun e x he hx=>(k.dn e x (h.has _ he) hx).trans (h.dn e x he hx),fun e he hv=>k.vis e (h.has _ he) (h.vis e he hv)⟩
section
variable {t:A2} (ht:A8 t) {s s':A5} (hf:AZ t s) {n:Nat} (X:Nxt t s s' n)
include ht hf X
theorem AdP {a b:Nat} (hb:(b:Int)∈s.has):N7 (U1 t s'.has s'.jf) t.nodes.length a b↔N7 (U1 t s.has s.jf) t.nodes.length a b:=by
 have hF:=Cf (BP (By.2 hf))
 have hF':=Cf (BP (By.2 X.form))
 constructor
 ·intro h
  rcases (A5M ht X.ext hF hF' hf.up (fun x hx=>(X.has x).1 hx) X.no (AaE ht hf X) X.src h).2 with e | e
  ·rw [e] at hb;exact absurd hb X.no
  ·exact e
 ·intro h
  refine h.mono fun a b h=>AfL ht X.ext hF hF' hf.up ?_ a b h
  have hd:s.has.Nodup:=hf.ris.imp fun h=>by omega
  exact Kc _ _ hd fun x hx=>(X.has x).2 (.inr hx)
theorem Ahf {e a:Nat} (he:(e:Int)∈s.has) (ha:a < t.nodes.length):V3 t s' e a=V3 t s e a:=by
 have h:Zn t s' a e=Zn t s a e:=by
  rw [Bool.eq_iff_iff,QD ht ha,QD ht ha]
  exact AdP ht hf X he
 unfold V3
 rw [h]
theorem NI {a b:Nat} (ha:(a:Int)∈s.has):Cl t s' s'.has.length b a=true↔(b:Int)∈s.has∧Cl t s s.has.length b a=true:=by
 have hF:=Cf (BP (By.2 hf))
 rw [L9 ht X.form,L9 ht hf,X.ext.on _ ha]
 have hon:Ho s.has s.jf a=(b:Int)→(b:Int)∈s.has:=fun h=>by
  by_cases k:(t.at a).kind=2
  ·have:=(hF.read a ha (by rw [Int.toNat_natCast];exact k)).1
   rwa [h] at this
  ·have:=hF.none a ha (by rw [Int.toNat_natCast];exact k)
   omega
 constructor
 ·rintro ⟨_,⟨h1,h2⟩ | h⟩
  ·rcases (X.has _).1 h1 with e | e
   ·exfalso
    have:=AaE ht hf X a ha
    rw [← e,h2] at this;cases this
   ·exact ⟨e,ha,.inl ⟨e,h2⟩⟩
  ·exact ⟨hon h,ha,.inr h⟩
 ·rintro ⟨h1,_,⟨h2,h3⟩ | h⟩
  ·exact ⟨(X.has _).2 (.inr ha),.inl ⟨(X.has _).2 (.inr h2),h3⟩⟩
  ·exact ⟨(X.has _).2 (.inr ha),.inr h⟩
theorem Ahg {e r:Nat} (he:(e:Int)∈s.has) (hel:e < t.nodes.length):T9 t s' e r=T9 t s e r∧(T9 t s e r=true→(r:Int)∈s.has):=by
 have h64:=ht.n64
 have fwd:∀ {r:Nat},N7 (fun a b=>Cl t s' s'.has.length b a) t.nodes.length e r→(r:Int)∈s.has∧N7 (fun a b=>Cl t s s.has.length b a) t.nodes.length e r:=by
  intro r h
  induction h with
  | one hb h =>
   obtain ⟨h1,h2⟩:=(NI ht hf X he).1 h
   exact ⟨h1,.one hb h2⟩
  | more _ hc h ih =>
   obtain ⟨h1,h2⟩:=(NI ht hf X ih.1).1 h
   exact ⟨h1,.more ih.2 hc h2⟩
 have bwd:∀ {r:Nat},N7 (fun a b=>Cl t s s.has.length b a) t.nodes.length e r→(r:Int)∈s.has∧N7 (fun a b=>Cl t s' s'.has.length b a) t.nodes.length e r:=by
  have hin:∀ {a b:Nat},(a:Int)∈s.has→Cl t s s.has.length b a=true→(b:Int)∈s.has:=fun {a b} ha h=>by
   have hF:=Cf (BP (By.2 hf))
   obtain ⟨_,⟨h1,_⟩ | h⟩:=(L9 ht hf).1 h
   ·exact h1
   ·by_cases k:(t.at a).kind=2
    ·have:=(hF.read a ha (by rw [Int.toNat_natCast];exact k)).1
     rwa [h] at this
    ·have:=hF.none a ha (by rw [Int.toNat_natCast];exact k)
     omega
  intro r h
  induction h with
  | one hb h =>
   have h1:=hin he h
   exact ⟨h1,.one hb ((NI ht hf X he).2 ⟨h1,h⟩)⟩
  | more _ hc h ih =>
   have h1:=hin ih.1 h
   exact ⟨h1,.more ih.2 hc ((NI ht hf X ih.1).2 ⟨h1,h⟩)⟩
 have key:∀ (p:Nat→Nat→Bool),Qj t.nodes.length p e r=true↔N7 p t.nodes.length e r∨e=r:=fun p=>by
  rw [Qj,Bool.or_eq_true,decide_eq_true_eq,G0 h64 p hel]
 constructor
 ·rw [Bool.eq_iff_iff,T9,T9,key,key]
  constructor
  ·rintro (h | h)
   ·exact .inl (fwd h).2
   ·exact .inr h
  ·rintro (h | h)
   ·exact .inl (bwd h).2
   ·exact .inr h
 ·intro h
  rw [T9,key] at h
  rcases h with h | h
  ·exact (bwd h).1
  ·rw [← h];exact he
theorem AdN {w e:Nat} (hw:(w:Int)∈s.has) (hk:(t.at w).kind=3) (h:A6C t s w e=true):A6C t s' w e=true:=by
 obtain ⟨h1,h2⟩:=A3S hf ht hw hk
 obtain ⟨c',hc',hsub⟩:=X.cls _ _ h1
 have:=A8l X.form ht ((X.has _).2 (.inr hw)) hk hc' (hsub _ h2)
 rw [A6C,List.any_eq_true] at h ⊢
 obtain ⟨x,hx,hp⟩:=h
 exact ⟨x,by rw [← this];exact hsub _ hx,hp⟩
theorem AdQ {e:Nat} (he:(e:Int)∈s.has) (h:N0 t s e=true):N0 t s' e=true:=by
 have h64:=ht.n64
 have hF:=Cf (BP (By.2 hf))
 have hF':=Cf (BP (By.2 X.form))
 obtain ⟨e',h1,hel⟩:=Aa (hf.node _ he)
 have h1:e=e':=by omega
 subst h1
 rw [N0,Abt,List.all_eq_true] at h ⊢
 intro r hr
 obtain ⟨h1,h2⟩:=DE (BQ.1 hr)
 obtain ⟨r,rfl⟩:=Int.eq_ofNat_of_zero_le h1
 have h3:=BQ.1 hr
 rw [AS,List.getD_eq_getElem?_getD,Bi hel,Option.getD_some,At] at h3
 simp only [Bool.and_eq_true,decide_eq_true_eq] at h3
 obtain ⟨k1,k2⟩:=Ahg ht hf X he hel (r:=r)
 have hg:T9 t s e r=true:=by rw [← k1];exact h3.1.2
 have hrs:=k2 hg
 have:=h (r:Int) (BQ.2 (by
  rw [AS,List.getD_eq_getElem?_getD,Bi hel,Option.getD_some,At]
  simp only [Bool.and_eq_true,decide_eq_true_eq]
  exact ⟨⟨h3.1.1,hg⟩,h3.2⟩))
 rw [Int.toNat_natCast,Bool.not_eq_true'] at this ⊢
 have hj:SY s' r=SY s r:=by rw [Jf hF'.len,Jf hF.len,X.ext.on _ hrs]
 unfold Vq at this ⊢
 simp only [hj] at this ⊢
 split at this
 ·rename_i c
  rw [if_pos c]
 ·rename_i c
  rw [if_neg c]
  rw [Bool.and_eq_false_iff] at this ⊢
  rcases this with h | h
  ·exact .inl h
  ·right
   rw [Bool.not_eq_false'] at h ⊢
   have hk:(t.at r).kind=2:=by
    apply Classical.byContradiction
    intro hk
    have:=hF.none r hrs (by rw [Int.toNat_natCast];exact hk)
    rw [← Jf hF.len] at this
    exact c (.inl (by omega))
   obtain ⟨q1,q2,_⟩:=hF.read r hrs (by rw [Int.toNat_natCast];exact hk)
   rw [← Jf hF.len] at q1 q2
   obtain ⟨w,hw,hwn⟩:=Aa (hf.node _ q1)
   rw [hw] at q1 q2 h ⊢
   rw [Int.toNat_natCast] at q2 h ⊢
   exact AdN ht hf X q1 q2 h
theorem AdO:Lst t s s':=⟨fun x hx=>(X.has x).2 (.inr hx),X.ext.on,fun e a he ha=>Ahf ht hf X he ha,fun e he h=>AdQ ht hf X he h⟩
end
theorem Zk {t:A2} (ht:A8 t) (m:List U8) (k:Nat):∀ j,Lst t (Cz t m k) (Cz t m (k+j))
 | 0=>Lst.refl _ _
 | j+1=>by
  refine (Zk ht m k j).trans ?_
  rw [← Nat.add_assoc]
  cases e:Ji t (Cz t m (k+j)) (Pc m (2 * (k+j))) (Pc m (2 * (k+j)+1)) with
  | none=>rw [Lt e];exact Lst.refl _ _
  | some s'=>rw [Lu e];obtain ⟨n,h⟩:=A01 ht (GI ht m _) e;exact AdO ht (GI ht m _) h
def A9E (S:BitVec 64):Nat:=((List.range 64).filter fun j=>!S.getLsbD j).length
theorem A4f {α:Type} {p q:α→Bool} (h:∀ y,p y=true→q y=true):∀ l:List α,(l.filter p).length≤(l.filter q).length
 | []=>Nat.le_refl _
 | y::l=>by
  have ih:=A4f h l
  rw [List.filter_cons,List.filter_cons]
  cases c:p y with
  | true=>rw [if_pos rfl,if_pos (h y c),List.length_cons,List.length_cons];omega
  | false =>
   rw [if_neg (by decide)]
   split
   ·rw [List.length_cons];omega
   ·exact ih
theorem A4g {α:Type} {p q:α→Bool} (h:∀ y,p y=true→q y=true) {x:α} (hq:q x=true) (hp:p x=false):∀ {l:List α},x∈l→(l.filter p).length < (l.filter q).length
 | y::l,hx=>by
  rw [List.filter_cons,List.filter_cons]
  rcases List.mem_cons.1 hx with rfl | hx
  ·have:=A4f h l
   rw [hp,hq,if_neg (by decide),if_pos rfl,List.length_cons];omega
  ·have ih:=A4g h hq hp hx
   cases c:p y with
   | true=>rw [if_pos rfl,if_pos (h y c),List.length_cons,List.length_cons];omega
   | false =>
    rw [if_neg (by decide)]
    split
    ·rw [List.length_cons];omega
    ·exact ih
theorem A9F {S:BitVec 64} {n:Nat} (hn:n < 64) (h:S.getLsbD n=false):A9E (S ||| CQ (n:Int)) < A9E S:=by
 refine A4g (x:=n) (fun y hy=>?_) (by rw [h];rfl) ?_ (List.mem_range.2 hn)
 ·rw [BitVec.getLsbD_or,Bool.not_eq_true',Bool.or_eq_false_iff] at hy
  rw [hy.1];rfl
 ·rw [BitVec.getLsbD_or,A5Q hn,decide_eq_true rfl,Bool.or_true];rfl
def SM (t:A2) (s:A5) (n:Nat):List Int:=(if 0≤SY s n then [SY s n] else [])++(if 0≤(t.at n).up then [(t.at n).up] else [])++(if 0≤(t.at n).thread then (List.range t.locs.length).map fun (k:Nat)=>(k:Int) else [])
theorem Abf (t:A2) (ht:A8 t) (s:A5) (n:Nat):(SM t s n).length≤6:=by
 have:=ht.l4
 unfold SM
 split<;>split<;>split<;>simp<;>omega
theorem A9L {t:A2} (ht:A8 t) {s:A5} {e r:Nat} (he:e < t.nodes.length):T9 t s e r=true↔N7 (fun a b=>Cl t s s.has.length b a) t.nodes.length e r∨e=r:=by
 rw [T9,Qj,Bool.or_eq_true,decide_eq_true_eq,G0 ht.n64 _ he]
section
variable {t:A2} (ht:A8 t) {s:A5} (hf:AZ t s)
include ht hf
theorem Abg {n:Nat} (hn:(n:Int)∈s.has) {r:Int} (h:r∈SM t s n):∃ m:Nat,r=m∧m < t.nodes.length∧(m:Int)∈s.has∧Cl t s s.has.length m n=true:=by
 have hF:=Cf (BP (By.2 hf))
 obtain ⟨n',e,hnl⟩:=Aa (hf.node _ hn)
 have e:n=n':=by omega
 subst e
 have fin:∀ m:Nat,(m:Int)∈s.has→(AE t m n=true∨Ho s.has s.jf n=(m:Int))→∃ k:Nat,(m:Int)=k∧k < t.nodes.length∧(k:Int)∈s.has∧Cl t s s.has.length k n=true:=fun m hm h=>by
  obtain ⟨m',e,hml⟩:=Aa (hf.node _ hm)
  have e:m=m':=by omega
  subst e
  refine ⟨m,rfl,hml,hm,(L9 ht hf).2 ⟨hn,?_⟩⟩
  rcases h with h | h
  ·exact .inl ⟨hm,h⟩
  ·exact .inr h
 simp only [SM,List.mem_append] at h
 rcases h with (h | h) | h
 ·split at h
  ·rename_i c
   rw [List.mem_singleton] at h
   subst h
   have hk:(t.at n).kind=2:=by
    apply Classical.byContradiction
    intro hk
    have:=hF.none n hn (by rw [Int.toNat_natCast];exact hk)
    rw [Jf hF.len] at c
    omega
   obtain ⟨q1,_,_⟩:=hF.read n hn (by rw [Int.toNat_natCast];exact hk)
   obtain ⟨w,hw,_⟩:=Aa (hf.node _ q1)
   rw [Jf hF.len,hw]
   rw [hw] at q1
   exact fin w q1 (.inr hw)
  ·cases h
 ·split at h
  ·rename_i c
   rw [List.mem_singleton] at h
   subst h
   have hu:=hf.up _ hn
   rw [Int.toNat_natCast] at hu
   obtain ⟨u,hu2⟩:=Int.eq_ofNat_of_zero_le c
   rw [hu2]
   have hui:(u:Int)∈s.has:=by
    rcases hu with h | h
    ·omega
    ·rw [← hu2];exact h
   have:=TK ht hnl c
   rw [hu2] at this
   exact fin u hui (.inl this)
  ·cases h
 ·split at h
  ·rename_i c
   obtain ⟨k,hk,rfl⟩:=List.mem_map.1 h
   have hk:=List.mem_range.1 hk
   have I:=ht.init k hk
   have hkl:k < t.nodes.length:=by have:=ht.first.1;omega
   refine fin k (Rv ht hf hkl (by rw [I.up];decide)) (.inl ?_)
   simp only [AE,BN hkl,BN hnl,Int.toNat_natCast,I.thr,Bool.true_and]
   rw [if_pos (by decide)]
   exact decide_eq_true c
  ·cases h
theorem A3s {S:Nat→Prop} (hS:∀ n:Nat,S n→(n:Int)∈s.has→∀ r:Nat,(r:Int)∈SM t s n→S r) {e r:Nat} (he:(e:Int)∈s.has) (h0:S e) (h:T9 t s e r=true):S r∧(r:Int)∈s.has:=by
 have hF:=Cf (BP (By.2 hf))
 obtain ⟨e',e1,hel⟩:=Aa (hf.node _ he)
 have e1:e=e':=by omega
 subst e1
 have up:∀ (N b:Nat),b < N→(b:Int)∈s.has→S b→∀ a:Nat,AA t a b=true→S a∧(a:Int)∈s.has:=by
  intro N
  induction N with
  | zero=>intro b h;omega
  | succ N ih =>
   intro b hN hb hSb a h
   obtain ⟨b',e,hbn⟩:=Aa (hf.node _ hb)
   have e:b=b':=by omega
   subst e
   have hlt:=ht.up b hbn
   rcases Int.lt_or_le (t.at b).up 0 with c | c
   ·unfold AA at h
    rw [Ec ht.up a (by omega),if_pos c] at h
    cases h
   ·obtain ⟨m,hm⟩:=Int.eq_ofNat_of_zero_le c
    have hu:=hf.up _ hb
    rw [Int.toNat_natCast] at hu
    have hmi:(m:Int)∈s.has:=by
     rcases hu with hu | hu
     ·omega
     ·rw [← hm];exact hu
    have hSm:S m:=hS b hSb hb m (by
     simp only [SM,List.mem_append]
     left;right
     rw [if_pos c,hm];simp)
    rw [J7 ht.up hbn hm,Bool.or_eq_true,decide_eq_true_eq] at h
    rcases h with h | h
    ·rw [← h];exact ⟨hSm,hmi⟩
    ·exact ih m (by omega) hmi hSm a h
 have one:∀ {a b:Nat},S a→(a:Int)∈s.has→a < t.nodes.length→Cl t s s.has.length b a=true→S b∧(b:Int)∈s.has:=fun {a b} ha hi hal h=>by
  obtain ⟨_,⟨h1,h2⟩ | h⟩:=(L9 ht hf).1 h
  ·refine ⟨?_,h1⟩
   have hb2:=h2
   simp only [AE,Bool.and_eq_true,Int.toNat_natCast] at hb2
   obtain ⟨⟨n1,n2⟩,h3⟩:=hb2
   simp only [BI,Bool.and_eq_true,decide_eq_true_eq] at n1 n2
   by_cases c:(t.at b).thread < 0
   ·rw [if_pos c,decide_eq_true_eq] at h3
    have hbl:=(ht.thr_iff (m:=b) (by omega)).1 c
    refine hS a ha hi b ?_
    simp only [SM,List.mem_append]
    right
    rw [if_pos h3]
    exact List.mem_map.2 ⟨b,List.mem_range.2 hbl,rfl⟩
   ·rw [if_neg c] at h3
    exact (up _ a (Nat.lt_succ_self _) hi ha b h3).1
  ·have hk:(t.at a).kind=2:=by
    apply Classical.byContradiction
    intro hk
    have:=hF.none a hi (by rw [Int.toNat_natCast];exact hk)
    omega
   obtain ⟨q1,_,_⟩:=hF.read a hi (by rw [Int.toNat_natCast];exact hk)
   rw [h] at q1
   refine ⟨hS a ha hi b ?_,q1⟩
   simp only [SM,List.mem_append]
   left;left
   rw [Jf hF.len,h,if_pos (by omega)];simp
 rw [A9L ht hel] at h
 rcases h with h | h
 ·have key:∀ {r:Nat},N7 (fun a b=>Cl t s s.has.length b a) t.nodes.length e r→S r∧(r:Int)∈s.has∧r < t.nodes.length:=by
   intro r h
   induction h with
   | one hb h=>obtain ⟨a,b⟩:=one h0 he hel h;exact ⟨a,b,hb⟩
   | more _ hc h ih=>obtain ⟨a,b⟩:=one ih.1 ih.2.1 ih.2.2 h;exact ⟨a,b,hc⟩
  have:=key h
  exact ⟨this.1,this.2.1⟩
 ·rw [← h];exact ⟨h0,he⟩
end
section
variable {V:Am} (C:Au V) {Q:VV→Prop}
include C
end
def hgW (t:A2) (s:A5) (e:Nat):BitVec 64:=(Ar t.nodes.length (T9 t s)).getD e 0#64
structure HgI (t:A2) (s:A5) (e:Nat) (S:BitVec 64) (L:List Int) (i:Nat):Prop where
 le:i≤L.length
 reach:∀ x∈L,∃ m:Nat,x=m∧m < t.nodes.length∧(m:Int)∈s.has∧T9 t s e m=true
 done:∀ j,j < i→S.getLsbD (L.getD j 0).toNat=true
 sub:∀ m:Nat,S.getLsbD m=true→T9 t s e m=true∧m < t.nodes.length
 clo:∀ m:Nat,S.getLsbD m=true→∀ r∈SM t s m,r∈L
 first:(e:Int)∈L
 size:L.length+6 * A9E S≤1+6 * 64
section
variable {t:A2} (ht:A8 t) {s:A5} (hf:AZ t s) {e:Nat} (he:(e:Int)∈s.has) {S:BitVec 64} {L:List Int} {i:Nat} (I:HgI t s e S L i)
include ht hf he I
theorem HgI.skip (hi:i < L.length) {m:Nat} (hm:L.getD i 0=(m:Int)) (h:S.getLsbD m=true):HgI t s e S L (i+1) :=
 ⟨hi,I.reach,fun j hj=>by
  by_cases c:j=i
  ·rw [c,hm];exact h
  ·exact I.done j (by omega),I.sub,I.clo,I.first,I.size⟩
theorem HgI.put (hi:i < L.length) {m:Nat} (hm:L.getD i 0=(m:Int)) (h:S.getLsbD m=false):HgI t s e (S ||| CQ (m:Int)) (L++SM t s m) (i+1):=by
 have h64:=ht.n64
 obtain ⟨m',e1,hml,hmh,hmr⟩:=I.reach _ (Ap (d:=0) hi)
 rw [hm] at e1
 have e1:m=m':=by omega
 subst e1
 have hel:e < t.nodes.length:=by
  obtain ⟨_,e2,h2⟩:=Aa (hf.node _ he);omega
 have hb:∀ x:Nat,(S ||| CQ (m:Int)).getLsbD x=true↔S.getLsbD x=true∨x=m:=fun x=>by
  rw [BitVec.getLsbD_or,Bool.or_eq_true,CR]
  simp only [decide_eq_true_eq]
  constructor
  ·rintro (h | h)
   ·exact .inl h
   ·exact .inr (by omega)
  ·rintro (h | h)
   ·exact .inl h
   ·exact .inr ⟨by omega,by omega⟩
 have hlast:∀ j,j < L.length→(L++SM t s m).getD j 0=L.getD j 0:=fun j hj=>by
  rw [List.getD_eq_getElem?_getD,List.getElem?_append_left hj,← List.getD_eq_getElem?_getD]
 refine ⟨by rw [List.length_append];omega,fun x hx=>?_,fun j hj=>?_,fun x hx=>?_,fun x hx r hr=>?_,List.mem_append_left _ I.first,?_⟩
 ·rcases List.mem_append.1 hx with hx | hx
  ·exact I.reach x hx
  ·obtain ⟨r,rfl,hrl,hrh,hst⟩:=Abg ht hf hmh hx
   refine ⟨r,rfl,hrl,hrh,?_⟩
   rw [A9L ht hel] at hmr ⊢
   left
   rcases hmr with h | h
   ·exact .more h hrl hst
   ·rw [h];exact .one hrl hst
 ·rw [hlast j (by omega),hb]
  by_cases c:j=i
  ·right;rw [c,hm,Int.toNat_natCast]
  ·exact .inl (I.done j (by omega))
 ·rcases (hb x).1 hx with h | h
  ·exact I.sub x h
  ·rw [h];exact ⟨hmr,hml⟩
 ·rcases (hb x).1 hx with h | h
  ·exact List.mem_append_left _ (I.clo x h r hr)
  ·rw [h] at hr;exact List.mem_append_right _ hr
 ·have h1:=A9F (S:=S) (n:=m) (by omega) h
  have h2:=Abf t ht s m
  have h3:=I.size
  rw [List.length_append];omega
theorem HgI.fin (hi:¬ i < L.length):S=hgW t s e:=by
 have h64:=ht.n64
 have hel:e < t.nodes.length:=by
  obtain ⟨_,e2,h2⟩:=Aa (hf.node _ he);omega
 have hin:∀ r:Nat,(r:Int)∈L→S.getLsbD r=true:=fun r hr=>by
  obtain ⟨j,hj,ej⟩:=List.getElem_of_mem hr
  have:=I.done j (by have:=I.le;omega)
  rw [List.getD_eq_getElem?_getD,List.getElem?_eq_getElem hj,Option.getD_some,ej,Int.toNat_natCast] at this
  exact this
 apply Bp
 intro j hj
 rw [hgW,List.getD_eq_getElem?_getD,Bi hel,Option.getD_some,At,decide_eq_true hj,Bool.and_true,Bool.eq_iff_iff,Bool.and_eq_true,decide_eq_true_eq]
 constructor
 ·intro h
  exact ⟨(I.sub j h).2,(I.sub j h).1⟩
 ·rintro ⟨_,h⟩
  exact (A3s ht hf (S:=fun m=>S.getLsbD m=true) (fun n hn _ r hr=>hin r (I.clo n hn _ hr)) he (hin e I.first) h).1
end
section
variable {V:Am} (C:Au V) {Q:VV→Prop}
include C
end
theorem J5.sub {t:A2}:∀ {n u e:Nat},J5 t n u e→∀ m,u≤m→m < e→∃ n' e',J5 t n' m e':=by
 intro n
 induction n with
 | zero=>intro u e h;exact absurd h (by simp [J5])
 | succ n ih =>
  intro u e h m h1 h2
  rcases Nat.eq_or_lt_of_le h1 with c | c
  ·rw [← c];exact ⟨n+1,e,h⟩
  ·obtain ⟨⟨_,ht,_⟩,h⟩:=h
   rcases h with ⟨_,_,rfl⟩ | ⟨_,_,_,al,hb⟩ | ⟨_,_,_,vals,k,loc,mode,_,hv0,hk0,hke,hloc,hs,_⟩
   ·omega
   ·exact ih hb m (by omega) h2
   ·obtain ⟨v,hv,a,b⟩:=Ee (k:=k) (m:=m) vals (by omega) (by omega)
    exact ih (hs v hv).2.2 m a b
theorem J5.wval {t:A2}:∀ {n u e:Nat},J5 t n u e→∀ m,u < m→m < e→(t.at m).kind=3→Gm t (t.at m).val=true:=by
 intro n
 induction n with
 | zero=>intro u e h;exact absurd h (by simp [J5])
 | succ n ih =>
  intro u e h m h1 h2 hk
  obtain ⟨⟨_,ht,_⟩,h⟩:=h
  rcases h with ⟨_,_,rfl⟩ | ⟨c,_,_,al,hb⟩ | ⟨c,_,_,vals,k,loc,mode,_,hv0,hk0,hke,hloc,hs,_⟩
  ·omega
  ·by_cases e1:m=u+1
   ·subst e1
    simp only [DA,Bool.or_eq_true,Bool.and_eq_true,decide_eq_true_eq] at al
    rcases al with h | h
    ·have:=h.1.1.1.1.1;omega
    ·exact h.1.2
   ·exact ih hb m (by omega) h2 hk
  ·obtain ⟨v,hv,a,b⟩:=Ee (k:=k) (m:=m) vals (by omega) (by omega)
   obtain ⟨s1,s2,s3⟩:=hs v hv
   by_cases e1:m=k v
   ·subst e1
    simp only [EK,Bool.and_eq_true,decide_eq_true_eq] at s2
    have:=s2.1.1.1.1;omega
   ·exact ih s3 m (by omega) b hk
theorem A8.wval {t:A2} (h:A8 t) {m:Nat} (hm:m < t.nodes.length) (hk:(t.at m).kind=3):Gm t (t.at m).val=true:=by
 by_cases c:m < t.locs.length
 ·have:=h.first.2 m c
  simp only [JH,Bool.and_eq_true] at this
  exact this.1.1.1.2
 ·obtain ⟨s,h0,he,hs⟩:=h.thr
  obtain ⟨v,hv,a,b⟩:=Ee (k:=s) (m:=m) t.regs.length (by omega) (by omega)
  obtain ⟨hb,n,hn⟩:=hs v hv
  by_cases e1:m=s v
  ·subst e1
   simp only [ET,Bool.and_eq_true,decide_eq_true_eq] at hb
   have:=hb.1.1.1.1.2;omega
  ·exact hn.wval m (by omega) b hk
theorem WI.vals {t:A2} (ht:A8 t) {s:A5} {mem:List Int} {k:Nat} (W:WI t s mem k) (loc:Nat) (hl:loc < t.locs.length):Gm t (mem.getD loc 0)=true:=by
 have hml:=W.form.ml
 obtain ⟨w,e,h1,h2,h3,_⟩:=W.last (loc:=loc) (by omega)
 rw [W.mem loc hl,e,Int.toNat_natCast]
 obtain ⟨w',e2,hw⟩:=Aa (W.form.node _ h1)
 exact ht.wval (by omega) h2
theorem A4u {t:A2} (ht:A8 t) {s s':A5} (hf:AZ t s) (h:Lst t s s') {a b:Nat} (ha:(a:Int)∈s.has) (hb:(b:Int)∈s.has):DB t s' a b=DB t s a b:=by
 obtain ⟨_,e1,hal⟩:=Aa (hf.node _ ha)
 obtain ⟨_,e2,hbl⟩:=Aa (hf.node _ hb)
 rw [Bool.eq_iff_iff,JC ht (by omega) (by omega),JC ht (by omega) (by omega)]
 constructor
 ·rintro ⟨x,y,hx,hy,h1,h2,h3⟩
  rw [h.dn a x ha hx] at h1
  rw [h.dn b y hb hy] at h2
  exact ⟨x,y,hx,hy,h1,h2,h3⟩
 ·rintro ⟨x,y,hx,hy,h1,h2,h3⟩
  exact ⟨x,y,hx,hy,by rw [h.dn a x ha hx];exact h1,by rw [h.dn b y hb hy];exact h2,h3⟩
section
variable {t:A2} (ht:A8 t) {s:A5} (hf:AZ t s) {at_:List Nat} (S:StI t s at_) (hfin:∀ u∈at_,(t.at u).fin=true)
include ht hf S hfin
end
theorem Zm {t:A2} (ht:A8 t) {s:A5} (hf:AZ t s) (j:Nat):Bv (Cj s.has) (j:Int)=B2 s.has (j:Int):=by
 have hn:CH t s.has:=hf.node
 exact hn.has ht.n64 _
theorem A8y {t:A2} (ht:A8 t) {a b:A5} (hfa:AZ t a) (h:Lst t a b):Nv (Eo t b) (Cj a.has)=Eo t a:=by
 rw [Eo,Eo,My ht.n64]
 refine Ds fun x y _ _=>?_
 rw [Zm ht hfa,Zm ht hfa]
 cases hx:B2 a.has (x:Int) with
 | false=>simp
 | true =>
 cases hy:B2 a.has (y:Int) with
 | false=>simp
 | true =>
 have hx':=A9.1 hx
 have hy':=A9.1 hy
 rw [A4u ht hfa h hx' hy',A9.2 (h.has _ hx'),A9.2 (h.has _ hy')]
 simp
theorem QF {t:A2} (ht:A8 t) {a b:A5} (hfa:AZ t a) (h:Lst t a b) {e:Nat} (he:(e:Int)∈a.has):Y6 t b e=Y6 t a e:=by
 rw [Y6,Y6,A4u ht hfa h he he]
theorem A8x {t:A2} (ht:A8 t) {s:A5}:(Ar t.nodes.length fun a b=>B2 s.has (b:Int) && B2 s.has (a:Int) && DB t s b a)=Eo t s :=
 Ds fun a b ha hb=>by rw [A8z ht ha hb,Bool.and_comm (B2 s.has (b:Int))]
end Go.AM
