/-
  Own work, part of the proof of these laws: plain laws.
-/
import Derived.Test.YtpnaenhghnkggaaGreatDoorKO
set_option maxRecDepth 10000
set_option maxHeartbeats 64000000
set_option linter.unusedVariables false
set_option linter.unusedSimpArgs false
set_option linter.unusedSectionVars false
set_option linter.unnecessarySimpa false
open Bool (and_eq_true or_eq_true not_eq_true' eq_false_iff)
open Int (toNat_natCast)
open List (getElem?_eq_getElem getD_eq_getElem?_getD length_map getElem_mem all_eq_true length_drop getElem?_map getElem_of_mem mem_filter)
open Option (getD_some)
open BitVec (getLsbD_or getLsbD_and)
namespace Go.AM
open Go Go.Proofs
theorem QH{t:A2}(ht:A7 t){s:A8}(hf:B2 t s){r:Nat}(hr:(r:Int)∈s.has)(hk:(t.at r).kind=2):∃w:Nat,Mv s r=w/\(w:Int)∈s.has/\(t.at w).kind=3/\(t.at w).loc=(t.at r).loc/\(t.at w).val=(t.at r).val/\wyB t s w r=true:=by
 have hF:=Bv (Cr (BV.2 hf))
 obtain⟨i,hi,e⟩:=getElem_of_mem hr
 have e:s.has.getD i 0=r:=by rw[getD_eq_getElem?_getD,getElem?_eq_getElem hi];exact e
 have hj:=hf.just i hi
 rw[e]at hj
 unfold okJ at hj
 rw[toNat_natCast,if_pos hk]at hj
 simp only[and_eq_true,decide_eq_true_eq,G7]at hj
 obtain⟨⟨h1,h2,h3⟩,h4⟩:=hj
 have h1:=Ac.1 h1
 obtain⟨w,hw,h5⟩:=A9 (hf.node _ h1)
 have h0:=hF.at_ i hi
 rw[e]at h0
 rw[hw]at h1 h2 h3 h4 h0
 rw[toNat_natCast]at h2 h3 h4
 refine⟨w,by rw[NW hF.len,h0],h1,h2,h3,h4,?_⟩
 rw[wyB,wyE,Ac.2 h1,Ac.2 hr,h0,decide_eq_true rfl,Bool.or_true]
 rfl
def AhZ(t:A2)(a:Nat):Prop:=0<=(t.at a).thread/\(t.at a).mode=4
def hbX(t:A2)(e:AF)(a b:Nat):Prop:=M7 (hbB t e.has e.rf) t.nodes.length a b
def SE(t:A2)(e:AF)(a b:Nat):Prop:=(a:Int)∈e.has/\(b:Int)∈e.has/\a≠b/\AhZ t a/\AhZ t b /\
 ∃c d:Nat,c<t.nodes.length/\d<t.nodes.length/\(c=a\/((t.at a).kind=4/\hbX t e a c))/\(d=b\/((t.at b).kind=4/\hbX t e d b))/\(hbX t e c d\/Uy t e c d)
noncomputable def Ns(t:A2)(e:AF):Rows:=BL t.nodes.length (SE t e)
def Co(t:A2)(e:AF)(n:Int):Bool:=!(t.at n.toNat).rmw||(decide (0<=CA e.has e.rf (t.at n.toNat).up)&&decide (BH (HC e (t.at n.toNat).loc) n=BH (HC e (t.at n.toNat).loc) (CA e.has e.rf (t.at n.toNat).up)+1))
def A9k(t:A2)(e:AF):Bool:=Lb t e&&e.has.all (Co t e)
noncomputable def Ag5(t:A2)(e:AF):Bool:=Lg t e&&e.has.all (Co t e)&&Uj (Ns t e)
def Apt(t:A2)(m:Nat):Prop:=(t.at m).rmw=true->0<m/\(t.at m).up=((m-1:Nat):Int)/\(t.at (m-1)).kind=2/\(t.at (m-1)).loc=(t.at m).loc/\(t.at m).kind=3
theorem G3.rw1{t:A2}:∀{n u e:Nat},G3 t n u e->u<e/\∀m,u<m->m<e->Apt t m:=by
 intro n
 induction n with
 |zero=>intro u e h;exact absurd h (by simp[G3])
 |succ n ih=>
  intro u e h
  obtain⟨⟨_,ht,_⟩,h⟩:=h
  rcases h with ⟨_,_,rfl⟩|⟨c,_,_,al,hb⟩|⟨c,_,_,vals,k,loc,mode,_,hv0,hk0,hke,hloc,hs,_⟩
  .exact⟨by omega,fun m h1 h2=>by omega⟩
  .have:=(ih hb).1
   refine⟨by omega,fun m h1 h2=>?_⟩
   by_cases e1:m=u+1
   .subst e1
    intro hr
    rw[Nat.add_sub_cancel]
    simp only[Dc,or_eq_true,and_eq_true,decide_eq_true_eq,not_eq_true']at al
    rcases al with h|h
    .rw[h.1.1.2]at hr;cases hr
    .obtain⟨⟨⟨h3,_⟩,_⟩,h4⟩:=h
     rw[if_pos hr]at h4
     simp only[and_eq_true,decide_eq_true_eq]at h4
     exact⟨by omega,(Ea c).1,h4.1.1.2,h4.1.2,h3⟩
   .exact(ih hb).2 m (by omega) h2
  .have mono:∀v,v<=vals->k 0<=k v:=by
    intro v
    induction v with
    |zero=>intro _;omega
    |succ v iv=>intro hv;have:=iv (by omega);have:=(ih (hs v (by omega)).2.2).1;omega
   refine⟨by have:=mono vals (by omega);omega,fun m h1 h2=>?_⟩
   obtain⟨v,hv,a,b⟩:=Ci (k:=k) (m:=m) vals (by omega) (by omega)
   obtain⟨s1,s2,s3⟩:=hs v hv
   by_cases e1:m=k v
   .subst e1
    simp only[Em,and_eq_true,decide_eq_true_eq,not_eq_true']at s2
    intro hr
    rw[s2.2]at hr;cases hr
   .exact(ih s3).2 m (by omega) b
theorem A7.rw1{t:A2}(h:A7 t){m:Nat}(hm:m<t.nodes.length):Apt t m:=by
 obtain⟨s,h0,he,hs⟩:=h.thr
 by_cases c:m<t.locs.length
 .intro hr
  have hi:=h.first.2 m c
  simp only[GT,and_eq_true,decide_eq_true_eq,not_eq_true']at hi
  rw[hi.1.1.2]at hr
  cases hr
 .obtain⟨v,hv,a,b⟩:=Ci (k:=s) (m:=m) t.regs.length (by omega) (by omega)
  obtain⟨hb,n,hn⟩:=hs v hv
  by_cases e1:m=s v
  .intro hr
   simp only[DO,and_eq_true,decide_eq_true_eq,not_eq_true']at hb
   rw[e1,hb.2]at hr
   cases hr
  .exact hn.rw1.2 m (by omega) b
structure AtP(t:A2)(s:A8):Prop where
 pr:∀r:Nat,(r:Int)∈s.has->(t.at r).kind=2->JN t r=true->((r+1:Nat):Int)∈s.has
 at_:∀n:Nat,(n:Int)∈s.has->(t.at n).rmw=true->Co t (Ais s) n=true
def WkP(t:A2)(s:A8):Prop:=Rk t s/\AtP t s
theorem QG{t:A2}(ht:A7 t){s:A8}(hf:B2 t s){n:Nat}(hn:(n:Int)∈s.has)(h0:0<=Mv s n):∃w k loc:Nat,Mv s n=w/\(w:Int)∈s.has/\(t.at w).loc=loc/\(t.at n).loc=loc/\loc<s.mo.length/\BW s loc w=k/\k<(s.mo.getD loc []).length/\AQ (Pz s loc k) w=true:=by
 have hF:=Bv (Cr (BV.2 hf))
 have hb:=hf.ml
 have hk:(t.at n).kind=2:=by
  by_cases hk:(t.at n).kind=2
  .exact hk
  .have h1:=hF.none n hn (by rw[toNat_natCast];exact hk)
   rw[NW hF.len,h1]at h0
   omega
 obtain⟨w,e1,e2,e3,e4,_,_⟩:=QH ht hf hn hk
 obtain⟨n',en,ha⟩:=A9 (hf.node _ hn)
 have en:n=n':=by omega
 subst en
 have h2:=ht.wloc ha (.inl hk)
 obtain⟨loc,h5⟩:=Int.eq_ofNat_of_zero_le h2.1
 have h9:loc<s.mo.length:=by omega
 have h3:=hf.once w e2 (by rw[toNat_natCast];exact e3)
 rw[toNat_natCast,e4,h5,toNat_natCast]at h3
 obtain⟨c,hc,h4⟩:∃c∈s.mo.getD loc [],AQ c (w:Int)=true:=by
  rcases hh:(s.mo.getD loc []).filter fun c=>AQ c (w:Int)with _|⟨c,_⟩
  .rw[hh]at h3;simp at h3
  .have:c∈(s.mo.getD loc []).filter fun c=>AQ c (w:Int):=by rw[hh];exact List.mem_cons_self ..
   exact⟨c,(List.mem_filter.1 this).1,(List.mem_filter.1 this).2⟩
 have hp:∃k:Nat,BW s loc w=k/\k<(s.mo.getD loc []).length/\AQ ((s.mo.getD loc []).getD k []) (w:Int)=true:=by
  rw[BW,if_neg (by omega),toNat_natCast,CE]
  cases hq:(s.mo.getD loc []).findIdx? fun c=>AQ c (w:Int)with
  |none=>
   rw[List.findIdx?_eq_none_iff]at hq
   rw[hq c hc]at h4
   cases h4
  |some k=>
   obtain⟨a,b,_⟩:=List.findIdx?_eq_some_iff_getElem.1 hq
   exact⟨k,rfl,a,by rw[getD_eq_getElem?_getD,getElem?_eq_getElem a];exact b⟩
 obtain⟨k,h6,h7,h8⟩:=hp
 exact⟨w,k,loc,e1,e2,by omega,h5,h9,h6,h7,h8⟩
theorem AcC{t:A2}(ht:A7 t){s:A8}(hf:B2 t s){n:Nat}(hn:(n:Int)∈s.has)(h0:Mv s n<0):Mv s n=-1:=by
 have hF:=Bv (Cr (BV.2 hf))
 by_cases hk:(t.at n).kind=2
 .obtain⟨w,e1,_⟩:=QH ht hf hn hk
  omega
 .rw[NW hF.len]
  exact hF.none n hn (by rw[toNat_natCast];exact hk)
theorem A6z{t:A2}(ht:A7 t){s:A8}(hf:B2 t s){loc:Nat}(hl:loc<s.mo.length):(s.mo.getD loc []).flatten.Nodup:=by
 have hb:=hf.ml
 have h6:∀k,k<(s.mo.getD loc []).length->(Pz s loc k).Nodup:=fun k hk=>(Tg hf hl hk).imp fun h=>by omega
 have wr:∀c∈s.mo.getD loc [],∀x∈c,(t.at x.toNat).kind=3/\(t.at x.toNat).loc=(loc:Int):=fun c hc x hx=>by
  have h:=hf.mo loc hl
  simp only[Dq,and_eq_true,Ag,decide_eq_true_eq]at h
  obtain⟨⟨_,h2⟩,h3⟩:=h
  obtain⟨k,hk,e⟩:=getElem_of_mem hc
  have h4:=h3 k hk
  have e:(s.mo.getD loc []).getD k []=c:=by rw[getD_eq_getElem?_getD (l:=s.mo.getD loc []),getElem?_eq_getElem hk];exact e
  rw[or_eq_true,decide_eq_true_eq]at h4
  rcases h4 with h4|h4
  .subst h4
   rw[e]at h2
   rw[h2,List.mem_singleton]at hx
   subst hx
   have I:=ht.init loc (by omega)
   rw[toNat_natCast]
   exact⟨I.kind,I.loc⟩
  .rw[e]at h4
   simp only[Ca,and_eq_true,Ag,Bb,G7,decide_eq_true_eq]at h4
   obtain⟨j,hj,ej⟩:=getElem_of_mem hx
   have h5:=(h4.2 j hj).1.1.2
   rw[getD_eq_getElem?_getD,getElem?_eq_getElem hj,getD_some,ej]at h5
   exact h5
 rw[List.nodup_iff_pairwise_ne,List.pairwise_flatten]
 refine⟨fun c hc=>List.nodup_iff_pairwise_ne.1 ?_,?_⟩
 .obtain⟨k,hk,e⟩:=getElem_of_mem hc
  have:=h6 k hk
  rw[Pz,getD_eq_getElem?_getD (l:=s.mo.getD loc []),getElem?_eq_getElem hk,getD_some,e]at this
  exact this
 .rw[List.pairwise_iff_getElem]
  intro i j hi hj ha x h1 y h9 h7
  subst h7
  obtain⟨k3,h8⟩:=wr _ (getElem_mem hi) x h1
  have hx:x∈s.has:=PE ht hf hl (getElem_mem hi) h1
  have h0:=hf.once x hx k3
  rw[h8,toNat_natCast]at h0
  obtain⟨L,hL⟩:∃L,L=s.mo.getD loc []:=⟨_,rfl⟩
  have e:L=L.take (i+1)++L.drop (i+1):=(List.take_append_drop _ _).symm
  rw[<- hL]at h0
  rw[e,List.filter_append,List.length_append]at h0
  have a1:0<((L.take (i+1)).filter fun c=>AQ c x).length:=List.length_pos_of_mem (List.mem_filter.2 ⟨by
   rw[List.mem_iff_getElem]
   refine⟨i,by rw[List.length_take];subst hL;omega,?_⟩
   rw[List.getElem_take],Ac.2 (by subst hL;exact h1)⟩)
  have a2:0<((L.drop (i+1)).filter fun c=>AQ c x).length:=List.length_pos_of_mem (List.mem_filter.2 ⟨by
   rw[List.mem_iff_getElem]
   refine⟨j-(i+1),by rw[length_drop];subst hL;omega,?_⟩
   rw[List.getElem_drop],Ac.2 (by subst hL;simpa[show i+1+(j-(i+1))=j by omega]using h9)⟩)
  omega
theorem A4C{x:List Int}:∀l:List (List Int),(Kb x l).Sublist l.flatten
 | []=>List.Sublist.refl _
 |c::l=>by
  rw[Kb,List.flatMap_cons,List.flatten_cons]
  exact List.Sublist.append List.filter_sublist (A4C l)
theorem A4B{t:A2}(ht:A7 t){s:A8}(hf:B2 t s)(x:List Int){loc:Nat}(hl:loc<s.mo.length):(Kb x (s.mo.getD loc [])).length<=64:=by
 have h1:=(A4C (x:=x) (s.mo.getD loc [])).length_le
 have h2:=Hs _ s.has (A6z ht hf hl) fun y hy=>by
  obtain⟨c,hc,hy⟩:=List.mem_flatten.1 hy
  exact PE ht hf hl hc hy
 have h3:=hf.len
 have h4:=ht.n64
 omega
theorem AlN{t:A2}(ht:A7 t){s:A8}{x:List Int}{e:AF}(h:P7 t s x=some e):JR e/\e.has=x/\x.length<=64:=by
 unfold P7 at h
 split at h
 .rename_i hc
  rw[and_eq_true,and_eq_true,okX,and_eq_true,and_eq_true]at hc
  obtain⟨⟨⟨⟨h1,h2⟩,h3⟩,_⟩,_⟩:=hc
  have hf:=BV.1 h1
  cases h
  rw[all_eq_true]at h2
  have hx:x.length<=64:=by
   have hd:x.Nodup:=(Jx.1 (Ag.1 h3)).imp fun h=>by omega
   have:=Hs x s.has hd fun y hy=>Ac.1 (h2 y hy)
   have:=hf.len
   have:=ht.n64
   omega
  refine⟨⟨by show x.length<=1000;omega,by show(x.map _).length<=1000;rw[length_map];omega,?_,fun l hl=>?_⟩,rfl,hx⟩
  .show(s.mo.map _).length<=1000
   rw[length_map,hf.ml]
   have:=ht.l4
   omega
  .obtain⟨m,hm,rfl⟩:=List.mem_map.1 hl
   obtain⟨loc,h0,e⟩:=getElem_of_mem hm
   have:=A4B ht hf x h0
   rw[getD_eq_getElem?_getD,getElem?_eq_getElem h0,getD_some,e]at this
   omega
 .cases h
def QT(e:AF)(L I K:Nat)(a b:Nat):Prop:=∃l i k,l<e.mo.length/\i<k/\k<(e.mo.getD l []).length/\(e.mo.getD l []).getD i 0=(a:Int)/\(e.mo.getD l []).getD k 0=(b:Int)/\(l<L\/(l=L/\(i<I\/(i=I/\k<K))))
def rdV(t:A2)(e:AF)(I:Nat)(a b:Nat):Prop:=∃j,j<I/\0<=e.rf.getD j 0/\((e.rf.getD j 0=(a:Int)/\e.has.getD j 0=(b:Int))\/(e.has.getD j 0=(a:Int)/\bhP t e (e.rf.getD j 0) b))
section
variable {t:A2}(ht:A7 t){e:AF}(X:XP t e)
include ht X
theorem Aho(a b:Nat):QT e e.mo.length 0 0 a b↔moX t e a b:=by
 have hd:=X.ml
 constructor
 .rintro⟨l,i,k,h1,h2,h3,h4,h5,_⟩
  have h6:l<t.locs.length:=by omega
  have ha:=Aa (d:=0) (show i<(e.mo.getD l []).length by omega)
  have hb:=Aa (d:=0) h3
  have h0:=(Ao0 ht X h6 (show i<(e.mo.getD l []).length by omega) h3).2 h2
  rw[h4]at ha h0
  rw[h5]at hb h0
  obtain⟨w,e1,_,e3,e4,e5⟩:=A99 ht X h6 ha
  have e1:a=w:=by omega
  subst e1
  refine⟨e3,by rw[toNat_natCast];exact e4,?_⟩
  rw[bhP,toNat_natCast,HC,e5,toNat_natCast]
  exact⟨hb,h0⟩
 .rintro⟨h1,h2,h3,h4⟩
  rw[toNat_natCast]at h2 h3 h4
  obtain⟨_,g2,g3,g4⟩:=A2k ht X h1 h2
  obtain⟨i,ei,hc,h7,_⟩:=Bn (Ac.2 g4)
  obtain⟨k,ek,h8,h9,_⟩:=Bn (Ac.2 h3)
  exact⟨(t.at a).loc.toNat,i,k,by omega,by omega,h8,h7,h9,.inl (by omega)⟩
theorem Ap7{L I K:Nat}(hL:L<e.mo.length)(hIK:I<K)(hK:K<(e.mo.getD L []).length)(a b:Nat):QT e L I (K+1) a b↔QT e L I K a b\/((e.mo.getD L []).getD I 0=(a:Int)/\(e.mo.getD L []).getD K 0=(b:Int)):=by
 constructor
 .rintro⟨l,i,k,h1,h2,h3,h4,h5,h6⟩
  by_cases c:l=L/\i=I/\k=K
  .obtain⟨rfl,rfl,rfl⟩:=c
   exact .inr ⟨h4,h5⟩
  .exact .inl ⟨l,i,k,h1,h2,h3,h4,h5,by omega⟩
 .rintro(⟨l,i,k,h1,h2,h3,h4,h5,h6⟩|⟨h4,h5⟩)
  .exact⟨l,i,k,h1,h2,h3,h4,h5,by omega⟩
  .exact⟨L,I,K,hL,hIK,hK,h4,h5,by omega⟩
theorem Ap6{L I:Nat}(a b:Nat):QT e L (I+1) (I+2) a b↔QT e L I (e.mo.getD L []).length a b:=by
 constructor
 .rintro⟨l,i,k,h1,h2,h3,h4,h5,h6⟩
  refine⟨l,i,k,h1,h2,h3,h4,h5,?_⟩
  rcases h6 with h6|⟨h6,h7⟩
  .exact .inl h6
  .subst h6
   exact .inr ⟨rfl,by omega⟩
 .rintro⟨l,i,k,h1,h2,h3,h4,h5,h6⟩
  exact⟨l,i,k,h1,h2,h3,h4,h5,by omega⟩
theorem Ap8{L:Nat}(a b:Nat):QT e (L+1) 0 1 a b↔QT e L (e.mo.getD L []).length 0 a b:=by
 constructor
 .rintro⟨l,i,k,h1,h2,h3,h4,h5,h6⟩
  refine⟨l,i,k,h1,h2,h3,h4,h5,?_⟩
  by_cases c:l=L
  .subst c
   exact .inr ⟨rfl,by omega⟩
  .omega
 .rintro⟨l,i,k,h1,h2,h3,h4,h5,h6⟩
  exact⟨l,i,k,h1,h2,h3,h4,h5,by omega⟩
theorem AhO(a b:Nat):rdV t e e.has.length a b↔rfX e a b\/frX t e a b:=by
 have hF:=X.ok
 constructor
 .rintro⟨j,hj,h0,h⟩
  have h4:=hF.at_ j hj
  have hm:=Aa (d:=0) hj
  rcases h with ⟨h1,h2⟩|⟨h1,h2⟩
  .rw[h2]at hm h4
   exact .inl ⟨hm,by rw[h4,h1]⟩
  .rw[h1]at hm h4
   exact .inr ⟨hm,by rw[h4];exact h0,by rw[h4];exact h2⟩
 .rintro(⟨h1,h2⟩|⟨h1,h2,h3⟩)
  .obtain⟨j,hj,ej⟩:=getElem_of_mem h1
   have ej:e.has.getD j 0=b:=by rw[getD_eq_getElem?_getD,getElem?_eq_getElem hj];exact ej
   have h4:=hF.at_ j hj
   rw[ej,h2]at h4
   exact⟨j,hj,by omega,.inl ⟨h4.symm,ej⟩⟩
  .obtain⟨j,hj,ej⟩:=getElem_of_mem h1
   have ej:e.has.getD j 0=a:=by rw[getD_eq_getElem?_getD,getElem?_eq_getElem hj];exact ej
   have h4:=hF.at_ j hj
   rw[ej]at h4
   exact⟨j,hj,by omega,.inr ⟨ej,by rw[<- h4];exact h3⟩⟩
theorem Aef{I:Nat}(h:e.rf.getD I 0<0)(a b:Nat):rdV t e (I+1) a b↔rdV t e I a b:=by
 constructor
 .rintro⟨j,hj,h0,h1⟩
  by_cases c:j=I
  .subst c;omega
  .exact⟨j,by omega,h0,h1⟩
 .rintro⟨j,hj,h0,h1⟩
  exact⟨j,by omega,h0,h1⟩
def rdW(t:A2)(e:AF)(I:Nat)(M:List Int)(K:Nat)(a b:Nat):Prop:=rdV t e I a b\/(e.rf.getD I 0=(a:Int)/\e.has.getD I 0=(b:Int))\/(e.has.getD I 0=(a:Int)/\∃k:Nat,BH M (e.rf.getD I 0)<(k:Int)/\k<K/\k<M.length/\M.getD k 0=(b:Int))
theorem Aps{I:Nat}{M:List Int}{K:Nat}(h1:BH M (e.rf.getD I 0)<(K:Int))(hK:K<M.length)(a b:Nat):rdW t e I M (K+1) a b↔rdW t e I M K a b\/(e.has.getD I 0=(a:Int)/\M.getD K 0=(b:Int)):=by
 constructor
 .rintro(h|h|⟨h,k,h2,h3,h4,h5⟩)
  .exact .inl (.inl h)
  .exact .inl (.inr (.inl h))
  .by_cases c:k=K
   .subst c;exact .inr ⟨h,h5⟩
   .exact .inl (.inr (.inr ⟨h,k,h2,by omega,h4,h5⟩))
 .rintro((h|h|⟨h,k,h2,h3,h4,h5⟩)|⟨h,h5⟩)
  .exact .inl h
  .exact .inr (.inl h)
  .exact .inr (.inr ⟨h,k,h2,by omega,h4,h5⟩)
  .exact .inr (.inr ⟨h,K,h1,by omega,hK,h5⟩)
theorem AhP{I:Nat}(h0:0<=e.rf.getD I 0){loc:Nat}(hll:loc<t.locs.length)(hl:(t.at (e.rf.getD I 0).toNat).loc=(loc:Int))(a b:Nat):rdW t e I (e.mo.getD loc []) (e.mo.getD loc []).length a b↔rdV t e (I+1) a b:=by
 have hb:bhP t e (e.rf.getD I 0) b↔∃k:Nat,BH (e.mo.getD loc []) (e.rf.getD I 0)<(k:Int)/\k<(e.mo.getD loc []).length/\(e.mo.getD loc []).getD k 0=(b:Int):=by
  rw[bhP,HC,hl,toNat_natCast]
  constructor
  .rintro⟨h1,h2⟩
   obtain⟨k,e1,h3,h4,_⟩:=Bn (Ac.2 h1)
   exact⟨k,by omega,h3,h4⟩
  .rintro⟨k,h1,h2,h3⟩
   have hm:=Aa (d:=0) h2
   have hx:=CX (X.nd loc hll) h2
   rw[h3]at hm hx
   exact⟨hm,by omega⟩
 constructor
 .rintro(⟨j,hj,h1,h2⟩|h|⟨h,k,h2,h3,h4,h5⟩)
  .exact⟨j,by omega,h1,h2⟩
  .exact⟨I,by omega,h0,.inl h⟩
  .exact⟨I,by omega,h0,.inr ⟨h,hb.2 ⟨k,h2,h4,h5⟩⟩⟩
 .rintro⟨j,hj,h1,h2⟩
  by_cases c:j=I
  .subst c
   rcases h2 with h2|⟨h2,h3⟩
   .exact .inr (.inl h2)
   .obtain⟨k,g1,g2,g3⟩:=hb.1 h3
    exact .inr (.inr ⟨h2,k,g1,g2,g2,g3⟩)
  .exact .inl ⟨j,by omega,h1,h2⟩
end
def hbE(t:A2)(e:AF)(a b:Nat):Bool:=((DP t e.has e.rf).getD a 0#64).getLsbD b
noncomputable def ecE(t:A2)(e:AF)(a b:Nat):Bool:=((JL t e).getD a 0#64).getLsbD b
def wdW(t:A2)(R:Rows)(a:Nat):BitVec 64:=BC (a:Int)|||(if(t.at a).kind=4 then R.getD a 0#64 else 0#64)
section
variable {t:A2}(ht:A7 t)(e:AF)
include ht
theorem KL:DP t e.has e.rf=Av t.nodes.length (hbE t e):=TF ht.n64 _
theorem PD:JL t e=Av t.nodes.length (ecE t e):=by
 have h:=TF ht.n64 (fun a b=>@decide (stX t e a b) (Classical.propDecidable _))
 exact h
theorem Gv{a b:Nat}(ha:a<t.nodes.length):hbE t e a b=true↔hbX t e a b:=DM ht.n64 _ ha
theorem Ux{a b:Nat}(ha:a<t.nodes.length):ecE t e a b=true↔Uy t e a b:=by
 have h:=DM ht.n64 (fun a b=>@decide (stX t e a b) (Classical.propDecidable _)) (b:=b) ha
 exact h
theorem AeC(w:BitVec 64)(d:Nat):(Dn (orF (DP t e.has e.rf) (JL t e)) w).getLsbD d=true↔∃c,c<t.nodes.length/\w.getLsbD c=true/\(hbX t e c d\/Uy t e c d):=by
 have h0:=ht.n64
 rw[KL ht e,PD ht e,Ry h0,HP (by rw[Az];exact h0),Az]
 refine exists_congr fun c=>?_
 constructor
 .rintro⟨h1,h2,h3⟩
  refine⟨h1,h2,?_⟩
  rw[El h1,AA,and_eq_true,and_eq_true,or_eq_true,Gv ht e h1,Ux ht e h1]at h3
  exact h3.1.2
 .rintro⟨h1,h2,h3⟩
  refine⟨h1,h2,?_⟩
  have hd:d<t.nodes.length:=by
   rcases h3 with h|h
   .exact M7.lt h
   .exact M7.lt h
  rw[El h1,AA,and_eq_true,and_eq_true,or_eq_true,Gv ht e h1,Ux ht e h1,decide_eq_true_eq,decide_eq_true_eq]
  exact⟨⟨hd,h3⟩,by omega⟩
theorem ZJ{p:Nat->Nat->Bool}{a c:Nat}(ha:a<t.nodes.length)(hc:c<t.nodes.length):(wdW t (Av t.nodes.length p) a).getLsbD c=true↔c=a\/((t.at a).kind=4/\p a c=true):=by
 have h0:=ht.n64
 rw[wdW,getLsbD_or,or_eq_true,C2,decide_eq_true_eq]
 refine or_congr ?_ ?_
 .constructor
  .rintro⟨h,_⟩;omega
  .intro h;exact⟨by omega,by omega⟩
 .by_cases k:(t.at a).kind=4
  .rw[if_pos k,El ha,AA,and_eq_true,and_eq_true,decide_eq_true_eq,decide_eq_true_eq]
   constructor
   .rintro⟨⟨_,h⟩,_⟩;exact⟨k,h⟩
   .rintro⟨_,h⟩;exact⟨⟨hc,h⟩,by omega⟩
  .rw[if_neg k]
   simp[k]
theorem Aec{a b:Nat}(ha:a<t.nodes.length)(hb:b<t.nodes.length):Dn (orF (DP t e.has e.rf) (JL t e)) (wdW t (DP t e.has e.rf) a)&&&wdW t (Av t.nodes.length fun x y=>hbE t e y x) b≠0#64 ↔
  ∃c d:Nat,c<t.nodes.length/\d<t.nodes.length/\(c=a\/((t.at a).kind=4/\hbX t e a c))/\(d=b\/((t.at b).kind=4/\hbX t e d b))/\(hbX t e c d\/Uy t e c d):=by
 have ne:∀x:BitVec 64,x≠0#64↔∃d,x.getLsbD d=true:=fun x=>by
  constructor
  .intro h
   refine Classical.byContradiction fun h2=>h (B4 fun d _=>?_)
   cases hx:x.getLsbD d with
   |true=>exact absurd ⟨d,hx⟩ h2
   |false=>simp
  .rintro⟨d,hd⟩ h
   rw[h]at hd
   simp at hd
 rw[ne]
 constructor
 .rintro⟨d,hd⟩
  rw[getLsbD_and,and_eq_true,AeC ht e]at hd
  obtain⟨⟨c,hc,h1,h2⟩,h3⟩:=hd
  have h0:d<t.nodes.length:=by
   rcases h2 with h|h
   .exact M7.lt h
   .exact M7.lt h
  rw[KL ht e,ZJ ht ha hc,Gv ht e ha]at h1
  rw[ZJ ht hb h0,Gv ht e h0]at h3
  exact⟨c,d,hc,h0,h1,h3,h2⟩
 .rintro⟨c,d,hc,h0,h1,h3,h2⟩
  refine⟨d,?_⟩
  rw[getLsbD_and,and_eq_true,AeC ht e,ZJ ht hb h0,Gv ht e h0]
  refine⟨⟨c,hc,?_,h2⟩,h3⟩
  rw[KL ht e,ZJ ht ha hc,Gv ht e ha]
  exact h1
end
def Zf(t:A2)(e:AF)(I K:Nat)(a b:Nat):Prop:=SE t e a b/\∃i k,i<e.has.length/\k<e.has.length/\e.has.getD i 0=(a:Int)/\e.has.getD k 0=(b:Int)/\(i<I\/(i=I/\k<K))
theorem AiW{t:A2}{e:AF}(a b:Nat):Zf t e 0 0 a b↔False:=by
 constructor
 .rintro⟨_,i,k,_,_,_,_,h⟩;omega
 .exact False.elim
theorem A8v{t:A2}{e:AF}(a b:Nat):Zf t e e.has.length 0 a b↔SE t e a b:=by
 constructor
 .exact fun h=>h.1
 .intro h
  have get:∀x:Int,x∈e.has->∃i,i<e.has.length/\e.has.getD i 0=x:=fun x hx=>by
   obtain⟨i,hi,ei⟩:=getElem_of_mem hx
   exact⟨i,hi,by rw[getD_eq_getElem?_getD,getElem?_eq_getElem hi];exact ei⟩
  obtain⟨i,hi,ei⟩:=get _ h.1
  obtain⟨k,hk,ek⟩:=get _ h.2.1
  exact⟨h,i,k,hi,hk,ei,ek,.inl hi⟩
theorem A8x{t:A2}{e:AF}{I:Nat}(a b:Nat):Zf t e (I+1) 0 a b↔Zf t e I e.has.length a b:=by
 constructor
 .rintro⟨h,i,k,h1,h2,h3,h4,h5⟩
  exact⟨h,i,k,h1,h2,h3,h4,by omega⟩
 .rintro⟨h,i,k,h1,h2,h3,h4,h5⟩
  exact⟨h,i,k,h1,h2,h3,h4,by omega⟩
theorem A8w{t:A2}{e:AF}{I K:Nat}{x y:Nat}(hI:I<e.has.length)(hK:K<e.has.length)(hx:e.has.getD I 0=(x:Int))(hy:e.has.getD K 0=(y:Int))(h:SE t e x y)(a b:Nat):Zf t e I (K+1) a b↔Zf t e I K a b\/(a=x/\b=y):=by
 constructor
 .rintro⟨h0,i,k,h1,h2,h3,h4,h5⟩
  by_cases c:i=I/\k=K
  .obtain⟨rfl,rfl⟩:=c
   exact .inr ⟨by omega,by omega⟩
  .exact .inl ⟨h0,i,k,h1,h2,h3,h4,by omega⟩
 .rintro(⟨h0,i,k,h1,h2,h3,h4,h5⟩|⟨rfl,rfl⟩)
  .exact⟨h0,i,k,h1,h2,h3,h4,by omega⟩
  .exact⟨h,I,K,hI,hK,hx,hy,by omega⟩
theorem Aea{t:A2}{e:AF}{I K:Nat}{x y:Nat}(hx:e.has.getD I 0=(x:Int))(hy:e.has.getD K 0=(y:Int))(h:¬SE t e x y)(a b:Nat):Zf t e I (K+1) a b↔Zf t e I K a b:=by
 constructor
 .rintro⟨h0,i,k,h1,h2,h3,h4,h5⟩
  by_cases c:i=I/\k=K
  .obtain⟨rfl,rfl⟩:=c
   have e1:a=x:=by omega
   have e2:b=y:=by omega
   subst e1
   subst e2
   exact absurd h0 h
  .exact⟨h0,i,k,h1,h2,h3,h4,by omega⟩
 .rintro⟨h0,i,k,h1,h2,h3,h4,h5⟩
  exact⟨h0,i,k,h1,h2,h3,h4,by omega⟩
theorem Aeb{t:A2}{e:AF}{I:Nat}{x:Nat}(hx:e.has.getD I 0=(x:Int))(h:∀y,¬SE t e x y)(a b:Nat):Zf t e (I+1) 0 a b↔Zf t e I 0 a b:=by
 constructor
 .rintro⟨h0,i,k,h1,h2,h3,h4,h5⟩
  by_cases c:i=I
  .subst c
   have e1:a=x:=by omega
   subst e1
   exact absurd h0 (h b)
  .exact⟨h0,i,k,h1,h2,h3,h4,by omega⟩
 .rintro⟨h0,i,k,h1,h2,h3,h4,h5⟩
  exact⟨h0,i,k,h1,h2,h3,h4,by omega⟩
theorem Z8{t:A2}{s:A8}{x:List Int}(h:okX t s x=true){n:Int}(hn:n∈x):n∈s.has:=by
 rw[okX,and_eq_true,and_eq_true,all_eq_true]at h
 exact Ac.1 (h.1.2 n hn)
theorem E6{α:Type}{l:List α}{p:α->Bool}{d:α}:l.all p=true↔∀j,j<l.length->p (l.getD j d)=true:=by
 rw[all_eq_true]
 constructor
 .intro h j hj;exact h _ (Aa hj)
 .intro h y hy
  obtain⟨j,hj,e⟩:=getElem_of_mem hy
  have:=h j hj
  rwa [getD_eq_getElem?_getD,getElem?_eq_getElem hj,getD_some,e]at this
theorem Nq{t:A2}{s:A8}{x:List Int}(h:okX t s x=false):P7 t s x=none:=by
 rw[P7,h];rfl
theorem TA{t:A2}{s:A8}{x:List Int}{k:Nat}(hk:k<x.length)(h:JM t s x (x.getD k 0)=false):P7 t s x=none:=by
 rw[P7,if_neg]
 intro hc
 rw[and_eq_true,and_eq_true]at hc
 have:=E6 (d:=0).1 hc.1.2 k hk
 rw[h]at this;cases this
theorem TB{t:A2}{s:A8}{x:List Int}{k:Nat}(hk:k<s.mo.length)(h:Vu x (s.mo.getD k [])=false):P7 t s x=none:=by
 rw[P7,if_neg]
 intro hc
 rw[and_eq_true,and_eq_true]at hc
 have:=E6 (d:=[]).1 hc.2 k hk
 rw[h]at this;cases this
theorem A1r{t:A2}{s:A8}{x:List Int}(h:okX t s x=true)(h1:∀j,j<x.length->JM t s x (x.getD j 0)=true)(h2:∀j,j<s.mo.length->Vu x (s.mo.getD j [])=true):P7 t s x=some ⟨x,x.map (ME t s x),s.mo.map (Kb x)⟩:=by
 rw[P7,if_pos]
 rw[and_eq_true,and_eq_true]
 exact⟨⟨h,E6.2 h1⟩,E6.2 h2⟩
theorem A6O{x:List Int}{l:List (List Int)}{j:Nat}(hj:j<l.length)(h:¬(HI x (l.getD j [])).length<=1):Vu x l=false:=by
 rw[eq_false_iff]
 intro hc
 exact h (of_decide_eq_true (E6 (d:=[]).1 hc j hj))
theorem A15{x:List Int}{l:List (List Int)}(h:∀j,j<l.length->(HI x (l.getD j [])).length<=1):Vu x l=true:=E6 (d:=[]).2 fun j hj=>decide_eq_true (h j hj)
theorem A16{x:List Int}{l:List (List Int)}{j:Nat}(hj:j<l.length):Kb x (l.take (j+1))=Kb x (l.take j)++HI x (l.getD j []):=by
 rw[List.take_succ_eq_append_getElem hj,Kb,Kb,List.flatMap_append,getD_eq_getElem?_getD,getElem?_eq_getElem hj]
 simp
theorem J2{α:Type}{l:List α}{j:Nat}{d:α}(hj:j<l.length):l.take (j+1)=l.take j++[l.getD j d]:=by
 rw[List.take_succ_eq_append_getElem hj,getD_eq_getElem?_getD,getElem?_eq_getElem hj];rfl
theorem Aiq{t:A2}(ht:A7 t){s:A8}(hf:B2 t s){loc:Nat}(hl:loc<s.mo.length):∀c∈s.mo.getD loc [],∀x∈c,(t.at x.toNat).kind=3/\(t.at x.toNat).loc=(loc:Int):=fun c hc x hx=>by
 have hml:=hf.ml
 have h:=hf.mo loc hl
 simp only[Dq,and_eq_true,Ag,decide_eq_true_eq]at h
 obtain⟨⟨_,h2⟩,h3⟩:=h
 obtain⟨k,hk,e⟩:=getElem_of_mem hc
 have h4:=h3 k hk
 have e:(s.mo.getD loc []).getD k []=c:=by rw[getD_eq_getElem?_getD (l:=s.mo.getD loc []),getElem?_eq_getElem hk];exact e
 rw[or_eq_true,decide_eq_true_eq]at h4
 rcases h4 with h4|h4
 .subst h4
  rw[e]at h2
  rw[h2,List.mem_singleton]at hx
  subst hx
  have I:=ht.init loc (by omega)
  rw[toNat_natCast]
  exact⟨I.kind,I.loc⟩
 .rw[e]at h4
  simp only[Ca,and_eq_true,Ag,Bb,G7,decide_eq_true_eq]at h4
  obtain⟨j,hj,ej⟩:=getElem_of_mem hx
  have h5:=(h4.2 j hj).1.1.2
  rw[getD_eq_getElem?_getD,getElem?_eq_getElem hj,getD_some,ej]at h5
  exact⟨h5.1,h5.2⟩
theorem A1c{t:A2}(ht:A7 t){s:A8}(hf:B2 t s){loc:Nat}(hl:loc<s.mo.length){y:Int}(hy:y∈s.has):y∈(s.mo.getD loc []).flatten↔Do t loc y=true:=by
 rw[Do,and_eq_true,decide_eq_true_eq,decide_eq_true_eq,List.mem_flatten]
 constructor
 .rintro⟨c,hc,hx⟩
  exact Aiq ht hf hl c hc y hx
 .rintro⟨h1,h2⟩
  have h:=hf.once y hy h1
  rw[h2,toNat_natCast]at h
  have:0<((s.mo.getD loc []).filter fun c=>AQ c y).length:=by omega
  obtain⟨c,hc⟩:=List.exists_mem_of_length_pos this
  rw[mem_filter]at hc
  exact⟨c,hc.1,Ac.1 hc.2⟩
theorem Api{t:A2}(ht:A7 t){s:A8}{x:List Int}{e:AF}(h:P7 t s x=some e):XP t e/\B2 t s:=by
 unfold P7 at h
 split at h
 .rename_i hc
  rw[and_eq_true,and_eq_true]at hc
  obtain⟨⟨h7,hr⟩,hm⟩:=hc
  have h4:=fun n hn=>Z8 h7 (n:=n) hn
  rw[okX,and_eq_true,and_eq_true]at h7
  have hf:=BV.1 h7.1.1
  have h9:=Jx.1 (Ag.1 h7.2)
  have ha:x.Nodup:=h9.imp fun h=>by omega
  have h0:BF t x:=fun n hn=>hf.node n (h4 n hn)
  cases h
  have hb:∀i,i<x.length->CA x (x.map (ME t s x)) (x.getD i 0)=ME t s x (x.getD i 0):=fun i hi=>by
   rw[CA,Ac.2 (Aa hi),if_pos rfl,CX ha hi,toNat_natCast,getD_eq_getElem?_getD,getElem?_map,Ak hi];rfl
  have h6:∀n,n∈x->CA x (x.map (ME t s x)) n=ME t s x n:=fun n hn=>by
   obtain⟨i,hi,ei⟩:=getElem_of_mem hn
   have:=hb i hi
   rw[getD_eq_getElem?_getD,getElem?_eq_getElem hi,getD_some,ei]at this
   exact this
  rw[all_eq_true]at hr
  have h8:∀n∈x,(t.at n.toNat).kind≠2->Mv s n<0:=fun n hn hk=>by
   obtain⟨m,rfl,hj⟩:=A9 (h0 n hn)
   by_cases c:Mv s m<0
   .exact c
   .have hF:=Bv (Cr (BV.2 hf))
    have:=hF.none _ (h4 _ hn) hk
    rw[NW hF.len]at c
    omega
  refine⟨⟨⟨by show x.length=(x.map _).length;rw[length_map],h0,ha,fun i hi=>?_,fun n hn hk=>?_,fun n hn hk=>?_⟩,?_,fun loc hl y=>?_,fun loc hl=>?_⟩,hf⟩
  .show CA x (x.map (ME t s x)) (x.getD i 0)=(x.map (ME t s x)).getD i 0
   rw[hb i hi,getD_eq_getElem?_getD (l:=x.map _),getElem?_map,Ak hi];rfl
  .show CA x (x.map (ME t s x)) n∈x/\(t.at (CA x (x.map (ME t s x)) n).toNat).kind=3/\(t.at (CA x (x.map (ME t s x)) n).toNat).loc=(t.at n.toNat).loc
   rw[h6 n hn]
   obtain⟨m,rfl,hj⟩:=A9 (h0 n hn)
   rw[toNat_natCast]at hk ⊢
   obtain⟨w,ew,_⟩:=QH ht hf (h4 _ hn) hk
   obtain⟨w,kc,loc,e1,e2,e3,e4,e5,e6,e7,e8⟩:=QG ht hf (h4 _ hn) (by omega)
   have he:=hr _ hn
   rw[JM,decide_eq_false (show ¬Mv s m<0 by omega),Bool.false_or,decide_eq_true_eq]at he
   have hd:rcX t s x (m:Int)=HI x (Pz s loc kc):=by
    rw[rcX,toNat_natCast,e4,e1,e6,toNat_natCast,toNat_natCast]
   rw[hd]at he
   have hv:ME t s x (m:Int)=(HI x (Pz s loc kc)).getD 0 0:=by rw[ME,if_neg (by omega),hd]
   rw[hv]
   have h3:=Aa (xs:=HI x (Pz s loc kc)) (k:=0) (d:=0) (by omega)
   obtain⟨z,hz⟩:∃z,z=(HI x (Pz s loc kc)).getD 0 0:=⟨_,rfl⟩
   rw[<- hz]at h3 ⊢
   rw[HI,mem_filter]at h3
   have hh:Pz s loc kc∈s.mo.getD loc []:=Aa e7
   have hw:=Aiq ht hf e5 _ hh z h3.1
   exact⟨Ac.1 h3.2,hw.1,by rw[hw.2,e4]⟩
  .show CA x (x.map (ME t s x)) n=-1
   rw[h6 n hn,ME,if_pos (h8 n hn hk)]
  .show(s.mo.map (Kb x)).length=t.locs.length
   rw[length_map,hf.ml]
  .show y∈(s.mo.map (Kb x)).getD loc []↔y∈x/\Do t loc y=true
   have h5:loc<s.mo.length:=by rw[hf.ml];exact hl
   have e0:(s.mo.map (Kb x)).getD loc []=Kb x (s.mo.getD loc []):=by
    rw[getD_eq_getElem?_getD,getElem?_map,getD_eq_getElem?_getD,getElem?_eq_getElem h5];rfl
   rw[e0,Kb,List.mem_flatMap]
   constructor
   .rintro⟨c,hc,hy⟩
    rw[HI,mem_filter]at hy
    have hg:=Ac.1 hy.2
    exact⟨hg,(A1c ht hf h5 (h4 y hg)).1 (List.mem_flatten.2 ⟨c,hc,hy.1⟩)⟩
   .rintro⟨h1,h2⟩
    obtain⟨c,hc,hy⟩:=List.mem_flatten.1 ((A1c ht hf h5 (h4 y h1)).2 h2)
    exact⟨c,hc,by rw[HI,mem_filter];exact⟨hy,Ac.2 h1⟩⟩
  .show((s.mo.map (Kb x)).getD loc []).Nodup
   have h5:loc<s.mo.length:=by rw[hf.ml];exact hl
   have e0:(s.mo.map (Kb x)).getD loc []=Kb x (s.mo.getD loc []):=by
    rw[getD_eq_getElem?_getD,getElem?_map,getD_eq_getElem?_getD,getElem?_eq_getElem h5];rfl
   rw[e0]
   exact List.Nodup.sublist (A4C _) (A6z ht hf h5)
 .cases h
abbrev Uw(t:A2)(e:AF)(D:Rows):List VV:=[.i .i64 t.vals,lS t.locs,.ls (t.regs.map J8),.ls (t.nodes.map eN),lI e.has,lI e.rf,.ls (e.mo.map EG),lW D]
theorem MQ{l:List Int}{n:Int}(h:AQ l n=false):BH l n=-1:=by
 rw[BH,CE]
 cases hq:l.findIdx? fun y=>decide (n=y)with
 |none=>rfl
 |some k=>
  obtain⟨a,b,_⟩:=List.findIdx?_eq_some_iff_getElem.1 hq
  rw[eq_false_iff]at h
  exact absurd (Ac.2 (by rw[of_decide_eq_true b];exact getElem_mem a)) h
section
variable {V:Ai}(C:Am V){Q:VV->Prop}
include C
theorem NT(t:A2)(e:AF)(D:Rows)(he:JR e)(hl:e.has.length=e.rf.length)(n:Int):VP V XM [.ag (Uw t e D),.i .i64 n] Q↔Q (.i .i64 (CA e.has e.rf n)):=by
 refine Af ?_
 rw[Ad C.c_z116.1 C.c_z116.2]
 have h1:=he.has
 have qI:=fun(Q:VV->Prop)=>AZ C e.has n (by omega) (Q:=Q)
 cases c:AQ e.has n with
 |true=>
  obtain⟨k,ek,hk,_,_⟩:=Bn c
  have gR:e.rf[k]? = some (e.rf.getD k 0):=Ak (by omega)
  have h0:k<e.rf.length:=by omega
  rw[show CE (fun y=>decide (n=y)) e.has=(k:Int) from ek]at qI
  have d0:decide ((k:Int)<0)=false:=decide_eq_false (by omega)
  rw[CA,c,if_pos rfl,ek,toNat_natCast]
  simp only[UI,go_sem,qI,d0,gR,h0]
 |false=>
  rw[show CE (fun y=>decide (n=y)) e.has=-1 from MQ c]at qI
  rw[CA,c,if_neg (by decide)]
  simp only[UI,go_sem,qI]
theorem Ss(t:A2)(e:AF)(D:Rows)(he:JR e){w loc:Nat}(hw:w<t.nodes.length)(hloc:(t.at w).loc=loc)(hl:loc<e.mo.length){k:Nat}(hk:BH (e.mo.getD loc []) w=k):VP V Rc [.ag (Uw t e D),.i .i64 w] Q↔Q (vW (BI ((e.mo.getD loc []).drop (k+1)))):=by
 refine Af ?_
 rw[Ad C.c_z177.1 C.c_z177.2]
 have gN:=A5 hw
 have gM:e.mo[loc]? = some (e.mo.getD loc []):=by rw[getD_eq_getElem?_getD,getElem?_eq_getElem hl];rfl
 have hm:=he.mi' loc
 obtain⟨M,hM⟩:∃M,M=e.mo.getD loc []:=⟨_,rfl⟩
 rw[<- hM]at gM hm hk ⊢
 have qI:=fun(Q:VV->Prop)=>AZ C M w (by omega) (Q:=Q)
 rw[show CE (fun y=>decide ((w:Int)=y)) M=(k:Int) from hk]at qI
 have hi:BH M w<M.length:=UB _ _
 have h0:k+1<=M.length:=by omega
 have w1:IntKind.i64.wrap ((k:Int)+1)=((k+1:Nat):Int):=by rw[Ax (by omega) (by omega)];omega
 have h1:List.take (M.length-(k+1)) (List.drop (k+1) M)=M.drop (k+1):=List.take_of_length_le (by rw[length_drop];omega)
 have qO:=fun(Q:VV->Prop)=>D4 C (M.drop (k+1)) (by rw[length_drop];omega) (Q:=Q)
 simp only[A3s,go_sem,gN,hw,hloc,gM,hl,qI,w1,h0,h1,Nat.le_refl,and_self,qO]
theorem Su(t:A2)(e:AF)(D:Rows){n:Nat}(hn:n<t.nodes.length):VP V XQ [.ag (Uw t e D),.i .i64 n] Q↔Q (.b (decide (0<=(t.at n).thread)&&decide ((t.at n).mode=4))):=by
 refine Af ?_
 rw[Ad C.c_z119.1 C.c_z119.2]
 have gN:=A5 hn
 cases d:decide (0<=(t.at n).thread)<;>simp only[A2U,go_sem,gN,hn,d,Bool.true_and,Bool.false_and]
theorem NU(t:A2)(e:AF)(D R:Rows){n:Nat}(hn:n<t.nodes.length)(hR:R.length=t.nodes.length):VP V XS [.ag (Uw t e D),.i .i64 n,lW R] Q↔Q (vW (wdW t R n)):=by
 refine Af ?_
 rw[Ad C.c_z121.1 C.c_z121.2]
 have gN:=A5 hn
 have gR:R[n]? = some (R.getD n 0#64):=by rw[getD_eq_getElem?_getD,getElem?_eq_getElem (by omega)];rfl
 have h0:n<R.length:=by omega
 have qP:=fun(Q:VV->Prop)=>C5 C 0#64 n (Q:=Q)
 rw[BitVec.zero_or]at qP
 unfold wdW
 cases d:decide ((t.at n).kind=4)with
 |true=>
  rw[if_pos (of_decide_eq_true d)]
  simp only[UJ,go_sem,gN,hn,d,gR,h0,qP]
 |false=>
  rw[if_neg (of_decide_eq_false d),BitVec.or_zero]
  simp only[UJ,go_sem,gN,hn,d,qP]
end
def rfW(e:AF)(n:Int):Nat->BitVec 64
 |0=>0#64
 |k+1=>if e.rf.getD k 0=n then rfW e n k|||BC (e.has.getD k 0)else rfW e n k
def bhW(t:A2)(e:AF)(w:Int):BitVec 64:=BI ((HC e (t.at w.toNat).loc).drop (BH (HC e (t.at w.toNat).loc) w+1).toNat)
section
variable {V:Ai}(C:Am V){Q:VV->Prop}
include C
theorem A9D(t:A2)(e:AF)(D:Rows)(he:JR e)(hl:e.has.length=e.rf.length)(n:Int):VP V QW [.ag (Uw t e D),.i .i64 n] Q↔Q (vW (rfW e n e.rf.length)):=by
 refine Af ?_
 rw[Ad C.c_z124.1 C.c_z124.2]
 have h1:=he.rf
 simp only[A2Y,go_sem,length_map]
 refine Aj (by decide) e.rf.length (by omega) (I:=fun k F h=>A3.tmp F 1=.i .i64 n/\A3.tmp F 2=.fp (Uw t e D) 0/\A3.tmp F 10=lI e.rf/\A3.tmp F 5=vW (rfW e n k)/\h=[]) ?_ ?_ 0 _ _ (by omega) ?_ ?_ ?_
 .rintro k F h hk h4 h3 ⟨p1,p2,h0,p5,rfl⟩
  have gR:e.rf[k]? = some (e.rf.getD k 0):=Ak hk
  have h2:k<e.has.length:=by omega
  have gH:e.has[k]? = some (e.has.getD k 0):=Ak h2
  have st:rfW e n (k+1)=if e.rf.getD k 0=n then rfW e n k|||BC (e.has.getD k 0)else rfW e n k:=rfl
  cases d:decide (e.rf.getD k 0=n)with
  |true=>
   rw[if_pos (of_decide_eq_true d)]at st
   simp only[go_sem,h4,h3,p1,p2,h0,p5,gR,gH,hk,h2,d,st,C5 C,A0]
  |false=>
   rw[if_neg (of_decide_eq_false d)]at st
   simp only[go_sem,h4,h3,p1,p2,h0,p5,gR,gH,hk,h2,d,st,A0]
 .rintro F h ⟨p1,p2,h0,p5,rfl⟩
  simp only[go_sem,p1,p2,h0,p5]
 .simp only[go_sem]
 .simp only[go_sem]
 .simp only[go_sem]
  rfl
theorem Qn{t:A2}(ht:A7 t){e:AF}(X:XP t e)(D:Rows)(he:JR e){w:Nat}(hw:(w:Int)∈e.has)(hk:(t.at w).kind=3):VP V Rc [.ag (Uw t e D),.i .i64 w] Q↔Q (vW (bhW t e w)):=by
 obtain⟨h1,h2,h3,h4⟩:=A2k ht X hw hk
 have h6:=X.ml
 obtain⟨loc,h0⟩:=Int.eq_ofNat_of_zero_le h2
 rw[HC,h0,toNat_natCast]at h4
 obtain⟨k,ek,h5,_,_⟩:=Bn (Ac.2 h4)
 refine(Ss C t e D he h1 h0 (by omega) ek).trans ?_
 rw[bhW,toNat_natCast,HC,h0,toNat_natCast,ek]
 have:((k:Int)+1).toNat=k+1:=by omega
 rw[this]
theorem A9C{t:A2}(ht:A7 t){e:AF}(X:XP t e)(D:Rows)(he:JR e){n:Nat}(hn:(n:Int)∈e.has):VP V QX [.ag (Uw t e D),.i .i64 n] Q↔Q (vW (if(t.at n).kind=3 then bhW t e n else 0#64)):=by
 refine Af ?_
 rw[Ad C.c_z125.1 C.c_z125.2]
 have h0:=Ao1 ht X hn
 have gN:=A5 h0
 cases d:decide ((t.at n).kind=3)with
 |true=>
  have k3:=of_decide_eq_true d
  have qB:=fun(Q:VV->Prop)=>Qn C ht X D he hn k3 (Q:=Q)
  rw[if_pos k3]
  simp only[UK,go_sem,gN,h0,k3,qB]
 |false=>
  have k3:=of_decide_eq_false d
  rw[if_neg k3]
  simp only[UK,go_sem,gN,h0,d,k3]
  try rfl
theorem A9B{t:A2}(ht:A7 t){e:AF}(X:XP t e)(D:Rows)(he:JR e){n:Nat}(hn:(n:Int)∈e.has):VP V QY [.ag (Uw t e D),.i .i64 n] Q↔Q (vW (if 0<=CA e.has e.rf n then bhW t e (CA e.has e.rf n)else 0#64)):=by
 refine Af ?_
 rw[Ad C.c_z126.1 C.c_z126.2]
 have qF:=fun(Q:VV->Prop)=>NT C t e D he X.ok.len n (Q:=Q)
 cases d:decide (0<=CA e.has e.rf n)with
 |true=>
  have h0:=of_decide_eq_true d
  obtain⟨w,e1,e2,e3,_,_⟩:=A9a ht X hn h0
  have qB:=fun(Q:VV->Prop)=>Qn C ht X D he e2 e3 (Q:=Q)
  rw[if_pos h0,e1]
  rw[e1]at qF d
  simp only[UL,go_sem,qF,d,qB]
 |false=>
  rw[if_neg (of_decide_eq_false d)]
  simp only[UL,go_sem,qF,d]
  try rfl
theorem Lh{t:A2}(ht:A7 t){e:AF}(X:XP t e)(D:Rows)(he:JR e):VP V A82 [.ag (Uw t e D)] Q↔Q (.b (e.has.all (Co t e))):=by
 refine Af ?_
 rw[Ad C.c_z61.1 C.c_z61.2]
 have h1:=he.has
 have hf:=X.ml
 have hc:∀k,k<e.has.length->Co t e (e.has.getD k 0)=false->e.has.all (Co t e)=false:=fun k hk h=>by
  rw[eq_false_iff]
  intro h4
  rw[all_eq_true]at h4
  rw[h4 _ (Aa hk)]at h
  cases h
 have h5:(∀k,k<e.has.length->Co t e (e.has.getD k 0)=true)->e.has.all (Co t e)=true:=fun h=>by
  rw[all_eq_true]
  intro x hx
  obtain⟨k,hk,ek⟩:=getElem_of_mem hx
  have:=h k hk
  rw[getD_eq_getElem?_getD,getElem?_eq_getElem hk,getD_some,ek]at this
  exact this
 obtain⟨G,hG⟩:∃G,G=e.has.all (Co t e):=⟨_,rfl⟩
 rw[<- hG]at hc h5 ⊢
 simp only[Ac5,go_sem,length_map]
 refine Aj (by decide) e.has.length (by omega) (I:=fun k F h=>A3.tmp F 1=.fp (Uw t e D) 0/\A3.tmp F 10=lI e.has/\(∀j,j<k->Co t e (e.has.getD j 0)=true)/\h=[]) ?_ ?_ 0 _ _ (by omega) ?_ ?_ ?_
 .rintro k F h hk h9 h8 ⟨p1,h3,h2,rfl⟩
  have gH:=Ak hk
  have hm:=Aa (d:=0) hk
  have hn:=hc k hk
  obtain⟨n,en,h0⟩:=A9 (X.ok.node _ hm)
  rw[en]at gH hm hn
  have gN:=A5 h0
  have nx:Co t e n=true->∀j,j<k+1->Co t e (e.has.getD j 0)=true:=fun h j hj=>by
   by_cases c:j=k
   .subst c;rw[en];exact h
   .exact h2 j (by omega)
  cases hr:(t.at n).rmw with
  |false=>
   have ha:Co t e n=true:=by rw[Co,toNat_natCast,hr];rfl
   simp only[go_sem,h9,h8,p1,h3,gH,hk,gN,h0,hr,A0]
   exact nx ha
  |true=>
   obtain⟨_,_,_,_,k3⟩:=ht.rw1 h0 hr
   have hb:=ht.wloc h0 (.inr k3)
   obtain⟨loc,h6⟩:=Int.eq_ofNat_of_zero_le hb.1
   have h7:loc<e.mo.length:=by omega
   have gM:e.mo[loc]? = some (e.mo.getD loc []):=by rw[getD_eq_getElem?_getD,getElem?_eq_getElem h7];rfl
   have hM:=he.mi' loc
   have ha:Co t e n=(decide (0<=CA e.has e.rf (t.at n).up)&&decide (BH (e.mo.getD loc []) n=BH (e.mo.getD loc []) (CA e.has e.rf (t.at n).up)+1)):=by
    rw[Co,toNat_natCast,hr,HC,h6,toNat_natCast];rfl
   obtain⟨M,hd⟩:∃M,M=e.mo.getD loc []:=⟨_,rfl⟩
   rw[<- hd]at gM hM ha
   have qF:=fun(Q:VV->Prop)=>NT C t e D he X.ok.len (t.at n).up (Q:=Q)
   obtain⟨w,hw⟩:∃w,w=CA e.has e.rf (t.at n).up:=⟨_,rfl⟩
   rw[<- hw]at qF ha
   have qI:=fun(x:Int) (Q:VV->Prop)=>(AZ C M x (by omega) (Q:=Q)).trans (show _↔Q (.i .i64 (BH M x)) from Iff.rfl)
   have b1:BH M w<M.length:=UB _ _
   have b2 : -1<=BH M w:=by
    cases c:AQ M w with
    |true=>obtain⟨j,ej,_⟩:=Bn c;omega
    |false=>rw[MQ c];omega
   have w1:IntKind.i64.wrap (BH M w+1)=BH M w+1:=Ax (by omega) (by omega)
   cases d:decide (w<0)with
   |true=>
    have d2:decide (0<=w)=false:=decide_eq_false (by have:=of_decide_eq_true d;omega)
    rw[d2,Bool.false_and]at ha
    have hg:=hn ha
    simp only[go_sem,h9,h8,p1,h3,gH,hk,gN,h0,hr,h6,gM,h7,qF,d,hg,A0]
   |false=>
    have d2:decide (0<=w)=true:=decide_eq_true (by have:=of_decide_eq_false d;omega)
    rw[d2,Bool.true_and]at ha
    cases d3:decide (BH M n=BH M w+1)with
    |true=>
     rw[d3]at ha
     simp only[go_sem,h9,h8,p1,h3,gH,hk,gN,h0,hr,h6,gM,h7,qF,d,qI,w1,d3,of_decide_eq_true d3,A0]
     exact nx ha
    |false=>
     rw[d3]at ha
     have hg:=hn ha
     simp only[go_sem,h9,h8,p1,h3,gH,hk,gN,h0,hr,h6,gM,h7,qF,d,qI,w1,d3,of_decide_eq_false d3,hg,A0]
 .rintro F h ⟨p1,h3,h2,rfl⟩
  have hg:=h5 h2
  simp only[go_sem,p1,h3,hg]
 .simp only[go_sem]
 .simp only[go_sem]
 .simp only[go_sem]
  exact fun j hj=>by omega
end
open Classical in
theorem Aej{n:Nat}{P P':Nat->Nat->Prop}{a:Nat}(ha:a<n){w:BitVec 64}(h1:∀i j,i<n->j<n->i≠a->(P i j↔P' i j))(h2:∀b,b<64->(w.getLsbD b=true↔b<n/\P' a b)):(BL n P).set a w=BL n P':=by
 apply List.ext_getElem
 .simp[Bi]
 .intro j g1 g2
  rw[List.length_set,Bi]at g1
  rw[List.getElem_set]
  unfold BL at g2 ⊢
  have e2:=BK (n:=n) (p:=fun a b=>@decide (P' a b) (Classical.propDecidable _)) g1
  have e1:=BK (n:=n) (p:=fun a b=>@decide (P a b) (Classical.propDecidable _)) g1
  rw[getElem?_eq_getElem (by rw[Az];exact g1),Option.some.injEq]at e1 e2
  rw[e2]
  by_cases c:a=j
  .subst c
   rw[if_pos rfl]
   apply B4
   intro i hi
   rw[AA,Bool.eq_iff_iff,h2 i hi,and_eq_true,and_eq_true,decide_eq_true_eq,decide_eq_true_eq,decide_eq_true_eq]
   exact⟨fun h=>⟨h,hi⟩,fun h=>h.1⟩
  .rw[if_neg c,e1]
   apply B4
   intro i hi
   rw[AA,AA]
   congr 1
   by_cases ci:i<n
   .rw[decide_eq_true ci,Bool.true_and,Bool.true_and,Bool.eq_iff_iff,decide_eq_true_eq,decide_eq_true_eq]
    exact h1 j i g1 ci (fun h=>c h.symm)
   .rw[decide_eq_false ci,Bool.false_and,Bool.false_and]
theorem A8E(e:AF)(n:Int)(b:Nat)(hb:b<64):∀k,(rfW e n k).getLsbD b=true↔∃j,j<k/\e.rf.getD j 0=n/\e.has.getD j 0=(b:Int)
 |0=>by
  constructor
  .intro h;simp[rfW]at h
  .rintro⟨j,hj,_⟩;omega
 |k+1=>by
  have ih:=A8E e n b hb k
  rw[rfW]
  constructor
  .intro h
   split at h
   .rename_i c
    rw[getLsbD_or,or_eq_true,ih,C2,decide_eq_true_eq]at h
    rcases h with ⟨j,h1,h2⟩|h
    .exact⟨j,by omega,h2⟩
    .exact⟨k,by omega,c,h.1.symm⟩
   .obtain⟨j,h1,h2⟩:=ih.1 h
    exact⟨j,by omega,h2⟩
  .rintro⟨j,h1,h2,h3⟩
   by_cases c:j=k
   .subst c
    rw[if_pos h2,getLsbD_or,or_eq_true,C2,decide_eq_true_eq]
    exact .inr ⟨h3.symm,hb⟩
   .have:=ih.2 ⟨j,by omega,h2,h3⟩
    split
    .rw[getLsbD_or,this];rfl
    .exact this
section
variable {t:A2}(ht:A7 t){e:AF}(X:XP t e)
include ht X
theorem Mq{b:Nat}(hb:(b:Int)∈e.has):∃j,j<e.has.length/\e.has.getD j 0=(b:Int)/\CA e.has e.rf b=e.rf.getD j 0:=by
 obtain⟨k,e1,h1,h2,_⟩:=Bn (Ac.2 hb)
 refine⟨k,h1,h2,?_⟩
 rw[CA,Ac.2 hb,if_pos rfl,e1,toNat_natCast]
theorem N9:e.has.Nodup:=X.ok.nd
theorem Am1{a b:Nat}(hb:b<64):(rfW e a e.rf.length).getLsbD b=true↔b<t.nodes.length/\rfX e a b:=by
 have hl:=X.ok.len
 rw[A8E e a b hb]
 constructor
 .rintro⟨j,h1,h2,h3⟩
  have hm:(b:Int)∈e.has:=by rw[<- h3];exact Aa (by omega)
  obtain⟨i,g1,g2,g3⟩:=Mq ht X hm
  have:i=j:=by
   have e1:=CX (N9 ht X) g1
   have e2:=CX (N9 ht X) (show j<e.has.length by omega)
   rw[g2]at e1;rw[h3]at e2;omega
  subst this
  exact⟨Ao1 ht X hm,hm,by rw[g3];exact h2⟩
 .rintro⟨_,hm,h2⟩
  obtain⟨i,g1,g2,g3⟩:=Mq ht X hm
  exact⟨i,by omega,by rw[<- g3];exact h2,g2⟩
theorem AaZ{w b:Nat}(hw:(w:Int)∈e.has)(hk:(t.at w).kind=3)(hb:b<64):(bhW t e w).getLsbD b=true↔b<t.nodes.length/\bhP t e w b:=by
 obtain⟨h1,h2,h3,h4⟩:=A2k ht X hw hk
 obtain⟨k,e1,g1,g2,_⟩:=Bn (Ac.2 h4)
 rw[bhW,bhP,toNat_natCast,<- Aq,Gw _ (by omega) (by omega),Ac,e1]
 obtain⟨l,hl⟩:∃l:Nat,l=(t.at w).loc.toNat:=⟨_,rfl⟩
 have h5:=X.nd l (by omega)
 have hq:HC e (t.at w).loc=e.mo.getD l []:=by rw[HC,hl]
 rw[hq]at g1 g2 ⊢
 have hx:=fun x hx=>A99 ht X (show l<t.locs.length by omega) (x:=x) hx
 obtain⟨M,hM⟩:∃M,M=e.mo.getD l []:=⟨_,rfl⟩
 rw[<- hM]at g1 g2 h5 hx ⊢
 have e3:((k:Int)+1).toNat=k+1:=by omega
 rw[e3]
 constructor
 .intro h
  obtain⟨j,hj,ej⟩:=getElem_of_mem h
  rw[length_drop]at hj
  rw[List.getElem_drop]at ej
  have hm:(b:Int)∈M:=List.mem_of_mem_drop h
  obtain⟨v,f1,f2,_⟩:=hx _ hm
  refine⟨by omega,hm,?_⟩
  have h0:k+1+j<M.length:=by omega
  have:=CX h5 h0
  rw[getD_eq_getElem?_getD,getElem?_eq_getElem h0,getD_some,ej]at this
  omega
 .rintro⟨_,hm,h⟩
  obtain⟨j,f1,f2,f3,_⟩:=Bn (Ac.2 hm)
  have:k+1<=j:=by omega
  rw[<- f3,getD_eq_getElem?_getD,getElem?_eq_getElem f2,getD_some]
  have hd:M[j]=(M.drop (k+1))[j-(k+1)]'(by rw[length_drop];omega):=by
   rw[List.getElem_drop];congr 1;omega
  rw[hd]
  exact getElem_mem _
def moW(t:A2)(e:AF)(n:Nat):BitVec 64:=if(t.at n).kind=3 then bhW t e n else 0#64
def frW(t:A2)(e:AF)(n:Nat):BitVec 64:=if 0<=CA e.has e.rf n then bhW t e (CA e.has e.rf n)else 0#64
theorem Am6{a b:Nat}(ha:(a:Int)∈e.has)(hb:b<64):(rfW e a e.rf.length|||moW t e a|||frW t e a).getLsbD b=true↔b<t.nodes.length/\stX t e a b:=by
 rw[getLsbD_or,getLsbD_or,or_eq_true,or_eq_true,Am1 ht X hb,stX,or_assoc,and_or_left,and_or_left]
 refine or_congr Iff.rfl (or_congr ?_ ?_)
 .unfold moW moX
  by_cases c:(t.at a).kind=3
  .rw[if_pos c,AaZ ht X ha c hb,toNat_natCast]
   exact and_congr Iff.rfl ⟨fun h=>⟨ha,c,h⟩,fun h=>h.2.2⟩
  .rw[if_neg c,toNat_natCast]
   constructor
   .intro h;simp at h
   .rintro⟨_,_,h,_⟩;exact absurd h c
 .unfold frW frX
  by_cases c:0<=CA e.has e.rf a
  .obtain⟨w,e1,e2,e3,_⟩:=A9a ht X ha c
   rw[if_pos c,e1,AaZ ht X e2 e3 hb]
   exact and_congr Iff.rfl ⟨fun h=>⟨ha,by omega,h⟩,fun h=>h.2.2⟩
  .rw[if_neg c]
   constructor
   .intro h;simp at h
   .rintro⟨_,_,h,_⟩;exact absurd h c
end
def stK(t:A2)(e:AF)(k:Nat)(a b:Nat):Prop:=stX t e a b/\∃i,i<k/\i<e.has.length/\e.has.getD i 0=(a:Int)
theorem ApA(t:A2)(e:AF)(a b:Nat):stK t e 0 a b↔False:=⟨fun⟨_,i,h,_⟩=>by omega,False.elim⟩
section
variable {t:A2}(ht:A7 t){e:AF}(X:XP t e)
include ht X
theorem AhV(a b:Nat):stK t e e.has.length a b↔stX t e a b:=by
 refine⟨fun h=>h.1,fun h=>⟨h,?_⟩⟩
 obtain⟨j,h1,h2,_⟩:=Mq ht X (Am7 ht X h).1
 exact⟨j,h1,h1,h2⟩
open Classical in
theorem AhW{k n:Nat}(hk:k<e.has.length)(hn:e.has.getD k 0=(n:Int))(h:n<t.nodes.length):(BL t.nodes.length (stK t e k)).getD n 0#64=0#64:=by
 unfold BL
 rw[El h]
 apply B4
 intro j hj
 rw[AA,Bool.eq_iff_iff,and_eq_true,and_eq_true,decide_eq_true_eq,decide_eq_true_eq]
 constructor
 .rintro⟨⟨_,_,i,h1,h2,h3⟩,_⟩
  have e1:=CX (N9 ht X) h2
  have e2:=CX (N9 ht X) hk
  rw[h3]at e1;rw[hn]at e2;omega
 .intro h;simp at h
theorem AhX{k n:Nat}(hk:k<e.has.length)(hn:e.has.getD k 0=(n:Int))(h:n<t.nodes.length):(BL t.nodes.length (stK t e k)).set n (rfW e n e.rf.length|||moW t e n|||frW t e n)=BL t.nodes.length (stK t e (k+1)):=by
 have hm:(n:Int)∈e.has:=by rw[<- hn];exact Aa hk
 refine Aej h (fun i j hi hj hne=>?_) (fun b hb=>?_)
 .unfold stK
  refine and_congr Iff.rfl ⟨?_,?_⟩
  .rintro⟨x,h1,h2⟩;exact⟨x,by omega,h2⟩
  .rintro⟨x,h1,h2,h3⟩
   refine⟨x,?_,h2,h3⟩
   by_cases c:x=k
   .subst c;omega
   .omega
 .rw[Am6 ht X hm hb]
  exact and_congr Iff.rfl ⟨fun h=>⟨h,k,by omega,hk,hn⟩,fun h=>h.1⟩
end
end Go.AM
