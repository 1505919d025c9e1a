/-
  Own work, part of the proof of these laws: plain laws.
-/
import Derived.Test.YtpnaenhghnkggaaGreatDoorPA
set_option maxRecDepth 10000
set_option maxHeartbeats 64000000
set_option linter.unusedVariables false
set_option linter.unusedSimpArgs false
set_option linter.unnecessarySimpa false
open Bool (and_eq_true or_eq_true)
namespace Go.AM
open Go Go.Proofs
theorem Ae6{t:A2}{x:List Int}(hx:BF t x){w:Int}(hw:w∈x){a:Nat}(h:(MC t x w).getLsbD a=true):a<t.nodes.length:=by
 rw[MC,AA,and_eq_true]at h
 have h1:=h.1
 simp only[Ae4,or_eq_true,and_eq_true,decide_eq_true_eq,Ac]at h1
 have:(a:Int)∈x:=by
  grind
 obtain⟨m,e,hm⟩:=A9 (hx _ this)
 omega
theorem QF{t:A2}(ht:A7 t){x f:List Int}(hF:Dg t x f){w:Int}(hw:w∈x){a:Nat}(h:(B0 t x f w).getLsbD a=true):a<t.nodes.length:=by
 obtain⟨j,_,h2,h3⟩:=(HO _ _ _ _ _ _).1 h
 rcases LJ ht hF hw j (fun k hk=>h2 k (by omega))with e|e
 .have:=h2 j (Nat.le_refl _)
  rw[e]at this;cases this
 .exact Ae6 hF.node e h3
theorem A9w{t:A2}{x:List Int}(hx:BF t x){r:Int}(hr:r∈x){b:Nat}(h:Gq t x r b=true):b<t.nodes.length:=by
 simp only[Gq,or_eq_true,and_eq_true,decide_eq_true_eq,Ac]at h
 have:(b:Int)∈x:=by
  grind
 obtain⟨m,e,hm⟩:=A9 (hx _ this)
 omega
theorem TK{n a:Nat}(ha:a<n)(p:Nat->Nat->Bool)(q:Nat->Bool)(hq:∀b,q b=true->b<n):((Av n p).map eW).set a [vW ((BR fun b=>decide (b<n)&&p a b)|||BR q)]=(Av n fun i b=>p i b||(decide (i=a)&&q b)).map eW:=by
 rw[<- Aei ha p q hq,El ha,List.map_set]
theorem TJ{n a b:Nat}(ha:a<n)(hb:b<n)(hn:n<=64)(p:Nat->Nat->Bool):((Av n p).map eW).set a [vW ((BR fun b=>decide (b<n)&&p a b)|||BC b)]=(Av n fun i j=>p i j||(decide (i=a)&&decide (j=b))).map eW:=by
 have:BC (b:Int)=BR fun j=>decide (j=b):=by
  apply B4
  grind[C2,AA]
 simp_all[TK]
def Pt(t:A2)(x f:List Int)(L:List Int)(a b:Nat):Bool:=L.any fun r=>LZ t x f r&&Bh (B0 t x f (CA x f r)) (a:Int)&&Gq t x r b
theorem Ai0{t:A2}{x f L:List Int}(h:∀y,y∈L↔y∈x)(a b:Nat):Pt t x f L a b=swB t x f a b:=by
 unfold Pt swB
 grind
theorem A1V{t:A2}{x f L:List Int}{k:Nat}(hk:k<L.length)(a b:Nat):Pt t x f (L.take (k+1)) a b=(Pt t x f (L.take k) a b||(LZ t x f (L.getD k 0)&&Bh (B0 t x f (CA x f (L.getD k 0))) (a:Int)&&Gq t x (L.getD k 0) b)):=by
 grind[Pt,List.take_succ_eq_append_getElem]
def ZO(t:A2)(x f:List Int)(k:Nat):List Int:=(List.range t.nodes.length).map fun(n:Nat)=>CA (x.take k) f (n:Int)
theorem AdZ(t:A2)(x f:List Int):ZO t x f 0=List.replicate t.nodes.length (-1):=by
 apply List.ext_getElem
 .simp[ZO]
 grind[ZO,CA,AQ]
theorem AhH(t:A2)(x f:List Int):ZO t x f x.length=onL t x f:=by unfold ZO onL;rw[List.take_length]
theorem A8r{t:A2}{x f:List Int}{k:Nat}:(ZO t x f k).length=t.nodes.length:=by simp[ZO]
theorem AeO{l:List Int}{n:Int}(h:AQ l n=true)(m:List Int):BH (l++m) n=BH l n:=by
 have h':AQ (l++m) n=true:=Ac.2 (List.mem_append_left _ (Ac.1 h))
 obtain⟨i,e1,i1,i2,i3⟩:=Bn h
 obtain⟨j,e2,j1,j2,j3⟩:=Bn h'
 rw[e1,e2]
 have g:∀k,k<l.length->(l++m).getD k 0=l.getD k 0:=fun k hk=>by grind
 grind
theorem AhI{t:A2}{x f:List Int}{k m:Nat}(hk:k<x.length)(hm:x.getD k 0=(m:Int))(hmn:m<t.nodes.length)(hris:∀i,i<=k->Ch x i=true):((ZO t x f k).map eI).set m [.i .i64 (f.getD k 0)]=(ZO t x f (k+1)).map eI:=by
 have h5:∀i,i<k->x.getD i 0<x.getD k 0:=by
  have:∀j,j<=k->∀i,i<j->x.getD i 0<x.getD j 0:=by
   intro j
   induction j with
   |zero=>intro _ i h;omega
   |succ j ih=>
    intro hj i hi
    have:=hris (j+1) hj
    simp only[Ch,or_eq_true,decide_eq_true_eq,Nat.add_sub_cancel]at this
    grind
  exact this k (Nat.le_refl _)
 have h4:AQ (x.take k) (m:Int)=false:=by
  rw[<- Bool.not_eq_true,Ac]
  grind[List.getElem_of_mem]
 have h0:x.take (k+1)=x.take k++[(m:Int)]:=by
  grind[List.take_succ_eq_append_getElem]
 have e0:((ZO t x f k).map eI).set m [.i .i64 (f.getD k 0)]=((ZO t x f k).set m (f.getD k 0)).map eI:=by rw[List.map_set]
 rw[e0]
 congr 1
 apply List.ext_getElem
 .simp[ZO]
 .intro i h1 h2
  have hi:i<t.nodes.length:=by simpa[ZO]using h2
  rw[List.getElem_set]
  by_cases c:m=i
  .subst c
   rw[if_pos rfl]
   simp only[ZO,List.getElem_map,List.getElem_range]
   unfold CA
   have h3:AQ (x.take (k+1)) (m:Int)=true:=by rw[h0,Ac];simp
   rw[if_pos h3]
   grind[Bn]
  .rw[if_neg c]
   simp only[ZO,List.getElem_map,List.getElem_range]
   unfold CA
   have c':¬(i:Int)=(m:Int):=by omega
   have e:AQ (x.take (k+1)) (i:Int)=AQ (x.take k) (i:Int):=by
    rw[h0,Bool.eq_iff_iff,Ac,Ac,List.mem_append]
    simp[c']
   rw[e]
   by_cases c2:AQ (x.take k) (i:Int)=true
   .simp_all[AeO]
   .rw[if_neg c2,if_neg c2]
def hbF(t:A2)(x f:List Int):Rows:=if Cb t x f=true then DP t x f else []
inductive M7 (p:Nat->Nat->Bool)(N:Nat)(a:Nat):Nat->Prop where
 |one {b:Nat} (hb:b<N) (h:p a b=true):M7 p N a b
 |more {b c:Nat} (h1:M7 p N a b) (hc:c<N) (h:p b c=true):M7 p N a c
theorem M7.lt{p:Nat->Nat->Bool}{N a b:Nat}(h:M7 p N a b):b<N:=by cases h<;>assumption
theorem M7.trans{p:Nat->Nat->Bool}{N a b c:Nat}(h:M7 p N a b)(k:M7 p N b c):M7 p N a c:=by
 induction k with
 |one hb h2=>exact .more h hb h2
 |more _ hc h2 ih=>exact .more ih hc h2
open Classical in
theorem DM{n:Nat}(hn:n<=64)(p:Nat->Nat->Bool){a b:Nat}(ha:a<n):((BG (Av n p)).getD a 0#64).getLsbD b=true↔M7 p n a b:=by
 have hl:(Av n p).length<=64:=by rw[Az];exact hn
 have e:(BG (Av n p)).getD a 0#64=Ge (Av n p) ((Av n p).getD a 0#64):=by
  rw[BG,DN hn,if_pos rfl,List.getD_eq_getElem?_getD]
  simp[Az,ha]
 rw[e]
 have hc:=Ql hl ((Av n p).getD a 0#64)
 have row:∀i j,i<n->(((Av n p).getD i 0#64).getLsbD j=true↔j<n/\p i j=true):=fun i j hi=>by
  rw[El hi,AA]
  grind
 constructor
 .intro h
  have:=hc.least (BR fun j=>decide (M7 p n a j)) (fun j hj=>by
   obtain⟨h1,h2⟩:=(row a j ha).1 hj
   rw[AA]
   simp only[and_eq_true,decide_eq_true_eq]
   exact⟨.one h1 h2,by omega⟩) (fun y hy hs j hj=>by
   rw[Az]at hy
   obtain⟨h1,h2⟩:=(row y j hy).1 hj
   rw[AA]at hs ⊢
   simp only[and_eq_true,decide_eq_true_eq]at hs ⊢
   exact⟨.more hs.1 h1 h2,by omega⟩) b h
  simp_all[AA]
 .intro h
  induction h with
  |one hb h=>exact hc.sub _ ((row a _ ha).2 ⟨hb,h⟩)
  |more h1 hc' h2 ih=>exact hc.closed _ (by rw[Az];exact h1.lt) ih _ ((row _ _ h1.lt).2 ⟨hc',h2⟩)
theorem D2{n:Nat}(hn:n<=64)(p:Nat->Nat->Bool):(BG (Av n p)).length=n:=by
 rw[BG,DN hn,if_pos rfl];simp[Az]
theorem Ae9{n:Nat}(hn:n<=64)(p:Nat->Nat->Bool):Dp (BG (Av n p))=true:=by
 simp only[Dp,and_eq_true,decide_eq_true_eq,List.all_eq_true,D2 hn]
 refine⟨hn,fun r hr=>?_⟩
 obtain⟨i,hi,rfl⟩:=List.getElem_of_mem hr
 rw[D2 hn]at hi
 apply B4
 intro j hj
 rw[BitVec.getLsbD_and,BitVec.getLsbD_not,CZ,AA]
 have e:(BG (Av n p))[i]=(BG (Av n p)).getD i 0#64:=by grind
 rw[e]
 cases hb:((BG (Av n p)).getD i 0#64).getLsbD j with
 |false=>simp
 |true=>
  have:=((DM hn p hi).1 hb).lt
  simp[this,hj]
theorem Nd{n:Nat}(hn:n<=64)(p:Nat->Nat->Bool)(x:Int×Int):x∈Bt (BG (Av n p))↔∃a b:Nat,a<n/\x=((a:Int),(b:Int))/\M7 p n a b:=by
 rw[Bt,Ae9 hn,if_pos rfl,D2 hn,List.mem_flatMap]
 constructor
 .rintro⟨a,ha,h⟩
  have h0:=List.mem_range.1 ha
  obtain⟨j,hj,rfl⟩:=List.mem_map.1 h
  obtain⟨h1,h2⟩:=CO (B7.1 hj)
  obtain⟨b,rfl⟩:=Int.eq_ofNat_of_zero_le h1
  have h3:=B7.1 hj
  rw[Aq]at h3
  exact⟨a,b,h0,rfl,(DM hn p h0).1 h3⟩
 .rintro⟨a,b,ha,rfl,h⟩
  refine⟨a,List.mem_range.2 ha,List.mem_map.2 ⟨b,B7.2 ?_,rfl⟩⟩
  grind[Aq,DM]
theorem A9l{t:A2}(ht:A7 t){v:Nat}(hv:v<t.nodes.length)(hu:0<=(t.at v).up):Ao t (t.at v).up v=true:=by
 have h3:=ht.up v hv
 obtain⟨u,h0⟩:=Int.eq_ofNat_of_zero_le hu
 have h2:u<t.nodes.length:=by omega
 have hl:t.locs.length<=v:=by
  rcases Nat.lt_or_ge v t.locs.length with h1|h1
  .have:=(ht.init v h1).up;omega
  .exact h1
 have hg:=ht.good v hl hv
 have hp:=hg.par hu
 rw[h0,Int.toNat_natCast]at hp
 have h4:=hg.thr
 rw[h0,Ao,C1 h2,C1 hv,Int.toNat_natCast,Int.toNat_natCast,if_neg (by omega)]
 simp only[Bool.true_and]
 unfold AK
 rw[E8 ht.up u (by omega),if_neg (by omega),if_pos h0]
theorem NW{s:A8}(h:s.has.length=s.jf.length)(n:Int):Mv s n=CA s.has s.jf n:=by
 unfold Mv CA
 have h1:=C0 s.has n
 cases c:AQ s.has n with
 |false=>
  grind
 |true=>
  obtain⟨k,e,hk,_,_⟩:=Bn c
  rw[e,if_neg (by omega)];simp
def plN(t:A2)(s:A8)(n:Int):Int:=BW s (t.at n.toNat).loc (if(t.at n.toNat).kind=2 then Mv s n else n)
def plR(t:A2)(s:A8)(n:Int):Int:=if(t.at n.toNat).kind=3 then BW s (t.at n.toNat).loc n else if(t.at n.toNat).kind=2 then BW s (t.at n.toNat).loc (Mv s n)else 0
def Mr(t:A2)(x f:List Int)(a b:Int):Bool:=Bh ((DP t x f).getD a.toNat 0#64) b
def AlO(t:A2)(s:A8)(a b:Int):Bool:=DW (t.at a.toNat) (t.at b.toNat) (plN t s a) (plN t s b)
def AsW(t:A2)(s:A8):Bool:=Bj t s&&(Bt (DP t s.has s.jf)).all fun x=>AlO t s x.1 x.2
def A6D(t:A2)(s:A8):Bool:=(List.range s.has.length).all fun i=>(List.range s.has.length).all fun k=>decide (i=k)||!Mr t s.has s.jf (s.has.getD i 0) (s.has.getD k 0)||DW (t.at (s.has.getD i 0).toNat) (t.at (s.has.getD k 0).toNat) (plR t s (s.has.getD i 0)) (plR t s (s.has.getD k 0))
theorem Cr{t:A2}{s:A8}(h:Bj t s=true):Cb t s.has s.jf=true:=by
 simp only[Bj,and_eq_true,decide_eq_true_eq]at h
 obtain⟨⟨⟨⟨⟨h1,h2⟩,h3⟩,h4⟩,h5⟩,h6⟩:=h
 simp only[Cg,and_eq_true]at h1
 rw[Cb,decide_eq_true h2.symm]
 simp only[Bool.true_and,and_eq_true,Ag]
 constructor
 .simp_all[Ce,Bk]
 .intro i hi
  have:=Ag.1 h4 i hi
  rw[GU]at this
  rw[Eb]
  grind
theorem AoJ{t:A2}{x f:List Int}(hF:Dg t x f){a b:Nat}(h:hbB t x f a b=true):(a:Int)∈x/\(b:Int)∈x\/(∃r,r∈x/\LZ t x f r=true/\Bh (B0 t x f (CA x f r)) (a:Int)=true/\Gq t x r b=true):=by
 simp only[hbB,or_eq_true,and_eq_true,Ac]at h
 rcases h with h|h
 .exact .inl h.1
 .rw[swB,List.any_eq_true]at h
  grind
theorem AjR{t:A2}{x:List Int}{r:Int}(hr:r∈x){b:Nat}(h:Gq t x r b=true):(b:Int)∈x/\((b:Int)=r\/(t.at b).kind=4/\Ao t r b=true):=by
 simp only[Gq,or_eq_true,and_eq_true,decide_eq_true_eq,Ac]at h
 grind
theorem Ag9{t:A2}(ht:A7 t){x f:List Int}(hF:Dg t x f){w:Int}(hw:w∈x){a:Nat}(h:Bh (B0 t x f w) (a:Int)=true) :
  ∃j,(∀i,i<=j->JS t x f i w∈x)/\(a:Int)∈x/\((a:Int)=JS t x f j w\/(t.at a).kind=4/\Ao t a (JS t x f j w)=true):=by
 rw[Aq]at h
 obtain⟨j,_,h2,h3⟩:=(HO _ _ _ _ _ _).1 h
 have h0:∀i,i<=j->JS t x f i w∈x:=fun i hi=>by
  rcases LJ ht hF hw i (fun k hk=>h2 k (by omega))with e|e
  .have:=h2 i hi
   rw[e]at this;cases this
  .exact e
 rw[MC,AA,and_eq_true]at h3
 have h4:=h3.1
 simp only[Ae4,or_eq_true,and_eq_true,decide_eq_true_eq,Ac]at h4
 grind
theorem Nt{t:A2}(ht:A7 t){x f:List Int}(hF:Dg t x f){a b:Nat}(h:M7 (hbB t x f) t.nodes.length a b):(a:Int)∈x/\(b:Int)∈x:=by
 have h0:∀{a b:Nat},hbB t x f a b=true->(a:Int)∈x/\(b:Int)∈x:=by
  intro a b h
  rcases AoJ hF h with h|⟨r,hr,hs,hh,he⟩
  .exact h
  .have hk:(t.at r.toNat).kind=2:=by simp_all[LZ]
   obtain⟨o1,_,_⟩:=hF.read r hr hk
   obtain⟨_,_,h1,_⟩:=Ag9 ht hF o1 hh
   exact⟨h1,(AjR hr he).1⟩
 induction h with
 |one hb h=>exact h0 h
 |more h1 hc h2 ih=>exact⟨ih.1,(h0 h2).2⟩
def DY(t:A2)(k:Nat):List Int:=((List.range k).filter fun i=>decide ((t.at i).up<0)).map fun(i:Nat)=>(i:Int)
def CH(t:A2):A8:=⟨DY t t.nodes.length,List.replicate (DY t t.nodes.length).length (-1),(List.range t.locs.length).map fun(i:Nat)=>[[(i:Int)]]⟩
theorem A8J{t:A2}{k:Nat}(h:decide ((t.at k).up<0)=true):DY t (k+1)=DY t k++[(k:Int)]:=by
 simp_all[DY,List.range_succ]
theorem A8I{t:A2}{k:Nat}(h:decide ((t.at k).up<0)=false):DY t (k+1)=DY t k:=by
 grind[DY,List.range_succ]
theorem NB{t:A2}(k:Nat):(DY t k).length<=k:=by
 grind[DY]
def Bo(l:List Int)(n:Int):Nat:=(l.takeWhile fun x=>decide (x<n)).length
def Be(l:List Int)(k:Nat)(x:Int):List Int:=l.take k++x::l.drop k
theorem Ee(l:List Int)(n:Int):Bo l n<=l.length:=(List.takeWhile_sublist _).length_le
theorem Mu{l:List Int}{n:Int}:∀{k:Nat},k<Bo l n->l.getD k 0<n:=by
 induction l with
 |nil=>intro k h;simp[Bo]at h
 |cons x l ih=>
  intro k h
  unfold Bo at h
  rw[List.takeWhile_cons]at h
  by_cases c:x<n
  .simp only[c,decide_true,if_true,List.length_cons]at h
   cases k with
   |zero=>simpa using c
   |succ k=>
    grind[Bo]
  .simp[c]at h
theorem Age{l:List Int}{n:Int}(h:Bo l n<l.length):¬l.getD (Bo l n) 0<n:=by
 induction l with
 |nil=>simp at h
 |cons x l ih=>
  unfold Bo at h ⊢
  rw[List.takeWhile_cons]at h ⊢
  by_cases c:x<n
  .simp_all[Bo]
  .simp[c]
theorem DL{l:List Int}{k:Nat}(h:k<=l.length)(x:Int):(Be l k x).length=l.length+1:=by
 simp[Be];omega
def Cn(t:A2)(s:A8)(n kind:Int):Bool:=Bj t s&&BZ t n&&decide ((t.at n.toNat).kind=kind)&&!AQ s.has n&&AQ s.has (t.at n.toNat).up
def Ba(s:A8)(n w:Int):A8:=⟨Be s.has (Bo s.has n) n,Be s.jf (Bo s.has n) w,s.mo⟩
structure Big(t:A2)(s:A8)(k:Nat):Prop where
 has:s.has.length<=64+k
 jf:s.jf.length<=64+k
 mo:s.mo.length=t.locs.length
 mi:∀l∈s.mo,l≠[]/\l.length<=1+k
 mc:∀l∈s.mo,∀c∈l,c.length<=1+k
theorem Big.sz{t:A2}(ht:A7 t){s:A8}{k:Nat}(h:Big t s k)(hk:k<=100):GI s:=
 ⟨by have:=h.has;omega,by have:=h.jf;omega,by have:=h.mo;have:=ht.l4;omega,fun l hl=>by have:=(h.mi l hl).2;omega,fun l hl c hc=>by have:=h.mc l hl c hc;omega⟩
theorem Big.mono{t:A2}{s:A8}{k j:Nat}(h:Big t s k)(hk:k<=j):Big t s j:=
 ⟨by have:=h.has;omega,by have:=h.jf;omega,h.mo,fun l hl=>⟨(h.mi l hl).1,by have:=(h.mi l hl).2;omega⟩,fun l hl c hc=>by have:=h.mc l hl c hc;omega⟩
theorem Aak{t:A2}(ht:A7 t):Big t (CH t) 0:=by
 have h:=NB (t:=t) t.nodes.length
 have h0:=ht.n64
 refine⟨by show(DY t t.nodes.length).length<=64;omega,by show(List.replicate _ _).length<=64;rw[List.length_replicate];omega,by simp[CH],?_,?_⟩
 .intro l hl
  simp only[CH,List.mem_map]at hl
  obtain⟨i,_,rfl⟩:=hl
  simp
 .intro l hl c hc
  simp only[CH,List.mem_map]at hl
  grind
theorem Adl{t:A2}{s:A8}{k:Nat}(h:Big t s k)(hj:s.jf.length=s.has.length)(n w:Int):Big t (Ba s n w) (k+1):=by
 have h1:=Ee s.has n
 refine⟨?_,?_,h.mo,fun l hl=>⟨(h.mi l hl).1,by have:=(h.mi l hl).2;omega⟩,fun l hl c hc=>by have:=h.mc l hl c hc;omega⟩
 .show(Be s.has (Bo s.has n) n).length<=_
  rw[DL h1];have:=h.has;omega
 .show(Be s.jf (Bo s.has n) w).length<=_
  rw[DL (by omega)];have:=h.jf;omega
end Go.AM
