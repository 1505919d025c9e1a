/-
  Own work, part of the proof of these laws: what functions compute.
-/
import Derived.Test.YtpnaenhghnkggaaGreatDoorKD
set_option maxRecDepth 10000
set_option maxHeartbeats 64000000
set_option linter.unusedVariables false
set_option linter.unusedSimpArgs false
set_option linter.unusedSectionVars false
set_option linter.unnecessarySimpa false
open List (getElem?_eq_getElem length_map length_append getElem_mem length_cons nil_append append_assoc cons_append mem_cons length_nil mem_cons_self not_mem_nil mem_cons_of_mem)
open Nat (zero_le lt_or_ge zero_add)
namespace Go.AM
open Go Go.Proofs
structure PP where
 nm:ByteArray
 vals:Int
 ini:List (ByteArray×Int)
 thr:List (List (List VV))
 ask:Int
 op:Int
 th:Int
 cn:ByteArray
 n:Int
 kids:List (List VV)
abbrev eN0(n:AI):List VV:=[.i .i64 n.thread,.i .i64 n.up,.i .i64 n.kind,.i .i64 n.loc,.i .i64 n.mode,.i .i64 n.val,.b n.rmw,.b n.fin,.nl]
abbrev eT0:Option VO:=some ⟨Lw,0,0,false,[[.i .i64 0,.nl,.nl,.nl]]⟩
abbrev eBd(p:PP)(locs:List ByteArray)(rg:List (List ByteArray))(ns:List AI)(th:Int)(long:Bool):Option VO:=some ⟨JV,0,0,false,[[.s p.nm,.i .i64 p.vals,.ls (p.ini.map eCl),.ls (p.thr.map fun l=>[.ls l]),.i .i64 p.ask,.i .i64 p.op,.i .i64 p.th,.s p.cn,.i .i64 p.n,.ls p.kids,.i .i64 p.vals,.sl 1 locs.length 0 locs.length,.sl 2 rg.length 0 rg.length,.sl 3 ns.length 0 ns.length,.i .i64 th,.b long]]⟩
abbrev eNs(ns:List AI):Option VO:=some (AN BS 9 (ns.map eN))
abbrev eRg(rg:List (List ByteArray)):Option VO:=some (AN BU 1 (rg.map J8))
abbrev hB(p:PP)(locs:List ByteArray)(rg:List (List ByteArray))(ns:List AI)(th:Int)(long:Bool)(r:VH):VH:=eT0::LOo locs::eRg rg::eNs ns::eBd p locs rg ns th long::r
theorem Ui{ty e:Nat}{rows:List (List VV)}(h:rows.length≠0):AN ty e rows = { ty:=ty,esz:=e,ver:=rows.length,nl:=false,rows:=rows }:=by
 unfold AN;rw[if_neg h]
theorem Gp{ty e:Nat}{rows:List (List VV)}(h:rows.length≠0):(decide ((AN ty e rows).esz=e)&&!(AN ty e rows).nl)=true:=by rw[Ui h];simp
section
variable {V:Ai}(C:Am V){Q:VV->Prop}
include C
theorem Mf(p:PP)(locs:List ByteArray)(rg:List (List ByteArray))(ns:List AI)(th:Int)(long:Bool)(r:VH)(n:AI)(hr:n.regs=[])(hn:ns.length<64){Q:VV->VH->Prop} :
  Lx V R8 [.p 4 0 0 0,.ag (eN0 n)] (hB p locs rg ns th long r) Q↔Q (.i .i64 (ns.length:Nat)) (hB p locs rg (ns++[n]) th long r):=by
 refine MX ?_
 rw[G4 C.h_z146]
 have h1:¬(64:Int)<=ns.length:=by omega
 have h2:(ns.length+1) * 80<=A6:=by unfold A6;omega
 have w:IntKind.i64.wrap (((ns.length+1:Nat):Int)-1)=((ns.length:Nat):Int):=by rw[Ax (by omega) (by omega)];omega
 simp only[UP,go_sem,h1,h2,w]
 have er:VV.ls []=lI n.regs:=by rw[hr];rfl
 rw[er]
 have e:List.map eN ns++[eN n]=(ns++[n]).map eN:=by simp
 have e2:({ ty:=BS,esz:=9,ver:=ns.length+1,nl:=false,rows:=List.map eN ns++[eN n] }:VO)=AN BS 9 ((ns++[n]).map eN):=by
  rw[e];exact GK rfl
 have e3:(ns++[n]).length=ns.length+1:=by simp
 rw[e2]
 simp only[hB,eBd,e3]
theorem Dk(p:PP)(locs:List ByteArray)(rg:List (List ByteArray))(ns:List AI)(th:Int)(long:Bool)(r:VH)(n:AI)(hn:64<=ns.length){Q:VV->VH->Prop} :
  Lx V R8 [.p 4 0 0 0,.ag (eN0 n)] (hB p locs rg ns th long r) Q↔Q (.i .i64 0) (hB p locs rg ns th true r):=by
 refine MX ?_
 rw[G4 C.h_z146]
 have h1:(64:Int)<=ns.length:=by omega
 simp only[UP,go_sem,h1]
theorem KE(p:PP)(locs:List ByteArray)(rg:List (List ByteArray))(ns:List AI)(th:Nat)(hth:th<rg.length)(long:Bool)(r:VH)(regs:List Int)(e:List VV)(he:GE e){k:Int}{b:Bool}
  (qe:∀Q':VV->Prop,VP V Rn [.ag e,lS (rg.getD th []),lI regs,.i .i64 p.vals] Q'↔Q' (.tu [.i .i64 k,.b b])) {Q:VV->VH->Prop} :
  J7 V Yw [.p 4 0 0 0,.ag e,lI regs] (hB p locs rg ns th long r) Q↔Q (.i .i64 k) (hB p locs rg ns th long r):=by
 refine Ja ?_
 rw[DG C.h_z195]
 have ht:=K4 hth
 have hx:=Gp (ty:=BU) (e:=1) (rows:=rg.map J8) (by rw[length_map];omega)
 simp only[A3H,go_sem,he.len,he.take,he.frz,he.cell,ht,hth,hx,qe]
omit C in
@[go_sem] theorem Apx (xs:List Int) (i:Nat) (v:Int):(xs.map eI).set i [.i .i64 v]=(xs.set i v).map eI:=by rw[List.map_set]
theorem A08(p:PP)(locs:List ByteArray)(rg:List (List ByteArray))(ns:List AI)(th:Nat)(hth:th<rg.length)(hrl:(rg.getD th []).length<=1000)(long:Bool)(r:VH)(regs:List Int)(hregs:regs.length=(rg.getD th []).length)(nm:ByteArray)(v:Int)(hin:nm∈rg.getD th []) :
  J7 V Yv [.p 4 0 0 0,lI regs,.s nm,.i .i64 v] (hB p locs rg ns th long r) fun x h=>∃k,k<regs.length/\x=lI (regs.set k v)/\h=hB p locs rg ns th long r:=by
 rw[DG C.h_z194]
 have ht:=K4 hth
 have hx:=Gp (ty:=BU) (e:=1) (rows:=rg.map J8) (by rw[length_map];omega)
 have hq:=fun Q=>Ek C (rg.getD th []) nm hrl (Q:=Q)
 obtain⟨k,e,hk,_⟩:=HN (p:=fun y=>decide (nm=y)) (l:=rg.getD th []) (by rw[List.any_eq_true];exact⟨nm,hin,by simp⟩)
 have h0:k<regs.length:=by omega
 have h1:regs.length * 8<=A6:=by unfold A6;omega
 rw[e]at hq
 simp only[A3G,go_sem,↓reduceIte,h1,ht,hth,hx,hq,h0,getElem?_eq_getElem h0,List.length_set,(show(regs.set k v).take regs.length=regs.set k v by rw[List.take_of_length_le];simp)]
 exact⟨k,h0,rfl⟩
theorem Ao9(p:PP)(locs:List ByteArray)(rg:List (List ByteArray))(ns:List AI)(n:AI)(th:Int)(long:Bool)(r:VH)(a:Nat)(ha:a=ns.length)(hn:ns.length<64)(regs:List Int)(hr:regs.length<=1000) :
  Lx V LQ [.p 4 0 0 0,.i .i64 a,lI regs] (hB p locs rg (ns++[n]) th long r) fun x h=>x=.tu []/\∃s,h=hB p locs rg (ns++[{ n with fin:=true,regs:=regs }]) th long (r++s):=by
 subst ha
 rw[G4 C.h_z192]
 have hx:=Gp (ty:=BS) (e:=9) (rows:=(ns++[n]).map eN) (by simp)
 have h1:regs.length * 8<=A6:=by unfold A6;omega
 have h2:ns.length<ns.length+1:=by omega
 have h3:(ns++[n])[ns.length]? = some n:=by simp
 have h4:∀row,(List.map eN (ns++[n])).set ns.length row=ns.map eN++[row]:=fun row=>by
  rw[List.map_append,List.set_append_right _ _ (by simp)];simp
 have h5:∀row:List VV,(ns.map eN++[row])[ns.length]? = some row:=fun row=>by
  rw[List.getElem?_append_right (by simp)];simp
 have h6:∀row row':List VV,(ns.map eN++[row]).set ns.length row'=ns.map eN++[row']:=fun row row'=>by
  rw[List.set_append_right _ _ (by simp)];simp
 simp only[Qy,go_sem,hx,h1,h2,h3,h4,h5,h6]
 refine⟨[none],?_⟩
 have e1:=Ui (ty:=BS) (e:=9) (rows:=(ns++[n]).map eN) (by simp)
 have e2:=Ui (ty:=BS) (e:=9) (rows:=(ns++[{ n with fin:=true,regs:=regs }]).map eN) (by simp)
 simp only[hB,eNs,e1,e2]
 simp[eBd]
def fr:List (List (List VV))->VV
 | []=>.np
 |l::ls=>.fp [.ls l,fr ls] 0
omit C in
@[go_sem] theorem Avi (L:Nat) (x:List (List (List VV))):Mi L (fr x)=fr x:=by cases x<;>rfl
omit C in
@[go_sem] theorem Atv (L:Nat) (x:List (List (List VV))):bel L (fr x)=true:=by cases x<;>rfl
omit C in
@[go_sem] theorem Atw (h:VH) (d:Nat) (x:List (List (List VV))):frz h (d+1) (fr x)=some (fr x,[]):=by cases x<;>rfl
omit C in
@[go_sem] theorem AqO (x:List (List (List VV))):(fr x).cell=true:=by cases x<;>rfl
omit C in
@[go_sem] theorem AoA (x:List (List (List VV))):(fr x).cells=[fr x]:=by cases x<;>rfl
def JE:List (List (List VV))->List (List (List VV))
 | []::ls=>JE ls
 |ls=>ls
noncomputable def wt:List (List (List VV))->Nat
 | []=>0
 |l::ls=>SizeOf.sizeOf l+wt ls
omit C in
theorem A28:∀fs,wt (JE fs)<=wt fs
 | []=>Nat.le_refl _
 | []::ls=>by rw[JE];have:=A28 ls;simp only[wt];omega
 |(s::l)::ls=>Nat.le_refl _
omit C in
theorem Ti:∀{fs:List (List (List VV))} {l},l∈JE fs->l∈fs
 | []::ls,l,h=>by rw[JE]at h;exact mem_cons_of_mem _ (Ti h)
 |(s::l')::ls,l,h=>h
omit C in
theorem Qm:∀fs,JE fs=[]\/∃s l fs',JE fs=(s::l)::fs'
 | []=>.inl rfl
 | []::ls=>by rw[JE];exact Qm ls
 |(s::l)::ls=>.inr ⟨s,l,ls,rfl⟩
def A2j(p:PP)(locs:List ByteArray)(rg:List (List ByteArray))(th:Nat)(ns:List AI)(n:AI)(r h:VH):Prop:=
 ∃(ns':List AI) (long:Bool) (s:VH),h=hB p locs rg ns' th long (r++s)/\ns'.length<=64/\(long=false->ZS p.vals locs rg ns n ns')
omit C in
theorem A2j.more{p:PP}{locs:List ByteArray}{rg:List (List ByteArray)}{th:Nat}{ns:List AI}{n:AI}{r s h:VH}(k:A2j p locs rg th ns n (r++s) h):A2j p locs rg th ns n r h:=by
 obtain⟨h3,h0,s',h1,h2⟩:=k
 exact⟨h3,h0,s++s',by rw[h1,append_assoc],h2⟩
def RdI(p:PP)(locs:List ByteArray)(rg:List (List ByteArray))(th:Nat)(ns:List AI)(n:AI)(lk:Nat)(mode:Int)(rm:Nat->Bool)(r:VH)(bx:Option VO)(x:Nat)(h:VH):Prop:=
 ∃(nsv:List AI) (lg:Bool) (s:VH),h=hB p locs rg nsv th lg (r++bx::s)/\nsv.length<=64/\(lg=false->ZY p.vals locs rg ns n x lk mode rm nsv)
def Afa(locs names:List ByteArray)(fs:List (List (List VV))):Prop:=∀l∈fs,l.length<=1000/\∀s∈l,GS locs s/\RI names s
def Aji(V:Ai)(p:PP)(locs:List ByteArray)(rg:List (List ByteArray))(th:Nat)(fs:List (List (List VV))):Prop:=
 ∀(ns:List AI) (n:AI) (regs:List Int) (r:VH),n.fin=false->n.regs=[]->n.thread=th->ns.length<64->regs.length=(rg.getD th []).length->(∀v∈regs,0<=v/\v<p.vals) ->
  Lx V LO [.p 4 0 0 0,fr fs,.i .i64 (ns.length:Nat),lI regs] (hB p locs rg (ns++[n]) th false r) fun v h=>v=.tu []/\A2j p locs rg th ns n r h
theorem Ajx(p:PP)(hv:2<=p.vals/\p.vals<=4)(locs:List ByteArray)(hlo:locs.length<=1000)(rg:List (List ByteArray))(th:Nat)(hth:th<rg.length)(hrl:(rg.getD th []).length<=1000) :
  ∀w fs,wt fs<=w->Afa locs (rg.getD th []) fs->Aji V p locs rg th fs:=by
 intro w
 induction w using Nat.strongRecOn with
 |ind w ih=>
 intro fs hw qy ns n regs r hf hr0 he qb h0 q0
 rw[G4 C.h_z147]
 simp only[Qw]
 refine C4 (J:=fun F h=>h=hB p locs rg (ns++[n]) th false r/\A3.tmp F 0=.p 4 0 0 0/\A3.tmp F 2=.i .i64 (ns.length:Nat)/\A3.tmp F 3=lI regs/\A3.tmp F 1=fr (JE fs)) ?_ ?_
 .rw[A0]
  refine AJ (M:=List (List (List VV))) (I:=fun x F h=>h=hB p locs rg (ns++[n]) th false r/\A3.tmp F 0=.p 4 0 0 0/\A3.tmp F 2=.i .i64 (ns.length:Nat)/\A3.tmp F 3=lI regs/\A3.tmp F 1=fr x/\JE x=JE fs) (μ:=fun x=>x.length) ?_ fs _ _ ⟨rfl,?_,?_,?_,?_,rfl⟩
  .rintro x F h ⟨rfl,p0,p2,p3,p1,hx⟩
   rcases x with _|⟨_|⟨s,l⟩,x⟩
   .rw[fr]at p1
    simp only[PG,go_sem,p0,p1,p2,p3,A0]
    rw[<- hx];rfl
   .rw[fr]at p1
    simp only[PG,go_sem,p0,p1,p2,p3,A0]
    exact⟨x,by omega,rfl,by rw[<- hx];rfl⟩
   .rw[fr]at p1
    have z:¬((l.length+1:Nat):Int)=0:=by omega
    simp only[PG,go_sem,p0,p1,p2,p3,A0,z]
    rw[<- hx];rfl
  all_goals simp only[go_sem]
 rintro F h ⟨rfl,p0,p2,p3,p1⟩
 have qc:=A28 fs
 have qf:Afa locs (rg.getD th []) (JE fs):=fun l hl=>qy l (Ti hl)
 rcases Qm fs with e|⟨s,l,fs',e⟩
 .rw[e]at p1
  rw[fr]at p1
  obtain⟨_,_,⟨rfl,s,rfl⟩,qe⟩:=DR (Ao9 C p locs rg ns n th false r ns.length rfl qb regs (by omega))
  simp only[go_sem,p0,p1,p2,p3,qe]
  exact⟨_,false,s,rfl,by simp;omega,fun _=>Acu he hth h0 q0⟩
 .rw[e]at p1 qc qf
  rw[fr]at p1
  obtain⟨hl,qi⟩:=qf _ mem_cons_self
  obtain⟨hg,ql⟩:=qi s mem_cons_self
  cases hg with
  |mk kind mode reg loc args tn el g1 g2 g3 g4 g5 g6 g7=>
  have hh:GZ kind=true->reg∈rg.getD th []:=by cases ql with|mk _ _ _ _ _ _ _ q1 q2 q3=>exact q1
  have p6:∀s∈tn,RI (rg.getD th []) s:=by cases ql with|mk _ _ _ _ _ _ _ q1 q2 q3=>exact q2
  have p5:∀s∈el,RI (rg.getD th []) s:=by cases ql with|mk _ _ _ _ _ _ _ q1 q2 q3=>exact q3
  have ht:Afa locs (rg.getD th []) (l::fs'):=fun x hx=>by
   rcases List.mem_cons.1 hx with rfl|hx
   .exact⟨by simp at hl;omega,fun s hs=>qi s (mem_cons_of_mem _ hs)⟩
   .exact qf x (mem_cons_of_mem _ hx)
  have p7:wt (l::fs')<w:=by simp only[wt,List.cons.sizeOf_spec]at qc ⊢;omega
  have qz:=Aa6 (c:=locs) (l:=rS kind mode reg loc args tn el::l) fun k hk=>(qi k hk).1
  have u1:1<=l.length+1:=by omega
  have lq:=fun Q=>Ek C locs loc hlo (Q:=Q)
  have IH:=ih _ p7 (l::fs') (Nat.le_refl _) ht
  obtain⟨k1,k7⟩:=g7.k
  have hj:∀k x,0<=x/\x<p.vals->∀v∈regs.set k x,0<=v/\v<p.vals:=fun k x hx v hv=>by
   rcases List.mem_or_eq_of_mem_set hv with h|h
   .exact q0 v h
   .rw[h];exact hx
  let bx:Option VO:=some ⟨Lu,0,0,false,[rS kind mode reg loc args tn el]⟩
  refine C4 (J:=fun F h=>h=hB p locs rg (ns++[n]) th false r/\A3.tmp F 0=.p 4 0 0 0/\A3.tmp F 2=.i .i64 (ns.length:Nat)/\A3.tmp F 3=lI regs/\A3.tmp F 1=.fp [.ls (rS kind mode reg loc args tn el::l),fr fs'] 0) ?_ ?_
  .simp only[go_sem,p0,p1,p2,p3]
  rintro F h ⟨rfl,p0,p2,p3,p1⟩
  refine C4 (J:=fun F h=>h=hB p locs rg (ns++[n]) th false r/\A3.tmp F 0=.p 4 0 0 0/\A3.tmp F 2=.i .i64 (ns.length:Nat)/\A3.tmp F 3=lI regs/\A3.tmp F 1=.fp [.ls (rS kind mode reg loc args tn el::l),fr fs'] 0) ?_ ?_
  .simp only[go_sem,p0,p1,p2,p3]
  rintro F h ⟨rfl,p0,p2,p3,p1⟩
  refine C4 (J:=fun F h=>h=hB p locs rg (ns++[n]) th false (r++[bx])/\A3.tmp F 0=.p 4 0 0 0/\A3.tmp F 2=.i .i64 (ns.length:Nat)/\A3.tmp F 3=lI regs/\A3.tmp F 1=.fp [.ls (rS kind mode reg loc args tn el::l),fr fs'] 0/\A3.tmp F 8=.p (r.length+1+1+1+1+1) 0 0 0) ?_ ?_
  .simp only[go_sem,p0,p1,p2,p3,bx]
  rintro F h ⟨rfl,p0,p2,p3,p1,p8⟩
  refine C4 (J:=fun F h=>h=hB p locs rg (ns++[n]) th false (r++[bx])/\A3.tmp F 0=.p 4 0 0 0/\A3.tmp F 2=.i .i64 (ns.length:Nat)/\A3.tmp F 3=lI regs/\A3.tmp F 8=.p (r.length+1+1+1+1+1) 0 0 0/\A3.tmp F 9=fr (l::fs')) ?_ ?_
  .simp only[go_sem,p0,p1,p2,p3,p1,p8,bx,qz,u1,fr,Nat.add_sub_cancel]
  rintro F h ⟨rfl,p0,p2,p3,p8,p9⟩
  refine C4 (J:=fun F h=>h=hB p locs rg (ns++[n]) th false (r++[bx])/\A3.tmp F 0=.p 4 0 0 0/\A3.tmp F 2=.i .i64 (ns.length:Nat)/\A3.tmp F 3=lI regs/\A3.tmp F 8=.p (r.length+1+1+1+1+1) 0 0 0/\A3.tmp F 9=fr (l::fs')/\A3.tmp F 10=.i .i64 (CE (fun y=>decide (loc=y)) locs)) ?_ ?_
  .simp only[go_sem,p0,p2,p3,p8,p9,bx,lq]
  rintro F h ⟨rfl,p0,p2,p3,p8,p9,h7⟩
  by_cases c1:kind=1
  .subst c1
   have ha:1<=args.length:=g7.one (by omega)
   obtain⟨a0,ar,rfl⟩:∃a0 ar,args=a0::ar:=by cases args with|nil=>simp at ha|cons a0 ar=>exact⟨a0,ar,rfl⟩
   have ga:=g2 a0 mem_cons_self
   obtain⟨_,⟨x,bb,rfl,hx⟩,qe⟩:=DJ (DX C (rg.getD th []) regs hrl h0 p.vals hv.1 hv.2 a0 ga)
   have qw:=fun Q=>KE C p locs rg (ns++[n]) th hth false (r++[bx]) regs a0 ga qe (Q:=Q)
   obtain⟨_,_,⟨ks,qa,rfl,rfl⟩,qs⟩:=Qe (A08 C p locs rg (ns++[n]) th hth hrl false (r++[bx]) regs h0 reg x (hh rfl))
   obtain⟨_,_,⟨rfl,qj⟩,qk⟩:=DR (IH ns n (regs.set ks x) (r++[bx]) hf hr0 he qb (by simp[h0]) (hj ks x hx))
   simp only[go_sem,p0,p2,p3,p8,p9,h7,A0,ga.len,ga.take,ga.frz,qw,qs,qk,bx,ZP,CJ]
   exact qj.more
  have qr:∀(t:List (List VV)),t.length<=1000->(∀s∈t,GS locs s)->(∀s∈t,RI (rg.getD th []) s)->Afa locs (rg.getD th []) (t::l::fs'):=fun t h1 h2 h3 x hx=>by
   rcases List.mem_cons.1 hx with rfl|hx
   .exact⟨h1,fun s hs=>⟨h2 s hs,h3 s hs⟩⟩
   .exact ht x hx
  by_cases c7:kind=7
  .subst c7
   have ha:1<=args.length:=g7.one (by omega)
   obtain⟨a0,ar,rfl⟩:∃a0 ar,args=a0::ar:=by cases args with|nil=>simp at ha|cons a0 ar=>exact⟨a0,ar,rfl⟩
   have ga:=g2 a0 mem_cons_self
   obtain⟨_,⟨x,bb,rfl,hx⟩,qe⟩:=DJ (DX C (rg.getD th []) regs hrl h0 p.vals hv.1 hv.2 a0 ga)
   have qw:=fun Q=>KE C p locs rg (ns++[n]) th hth false (r++[bx]) regs a0 ga qe (Q:=Q)
   have w1:wt (tn::l::fs')<w:=by simp only[wt,rS,List.cons.sizeOf_spec,VV.ls.sizeOf_spec]at qc ⊢;omega
   have w2:wt (el::l::fs')<w:=by simp only[wt,rS,List.cons.sizeOf_spec,VV.ls.sizeOf_spec]at qc ⊢;omega
   obtain⟨_,_,⟨rfl,q8⟩,qt⟩:=DR (ih _ w1 _ (Nat.le_refl _) (qr tn g3 g5 p6) ns n regs (r++[bx]) hf hr0 he qb h0 q0)
   obtain⟨_,_,⟨rfl,p4⟩,qu⟩:=DR (ih _ w2 _ (Nat.le_refl _) (qr el g4 g6 p5) ns n regs (r++[bx]) hf hr0 he qb h0 q0)
   rw[fr]at qt qu
   cases c0:decide (x=0)
   .simp only[go_sem,p0,p2,p3,p8,p9,h7,A0,ga.len,ga.take,ga.frz,qw,qt,bx,c0]
    exact q8.more
   .simp only[go_sem,p0,p2,p3,p8,p9,h7,A0,ga.len,ga.take,ga.frz,qw,qu,bx,c0]
    exact p4.more
  have hn:(ns++[n]).length=ns.length+1:=by simp
  have hp:∀h s,h=hB p locs rg (ns++[n]) th true (r++s)->A2j p locs rg th ns n r h:=fun h s e=>⟨_,true,s,e,by simp;omega,fun h=>by cases h⟩
  have q6:∀x:AI,x.up=ns.length->x.thread=th->Jd locs.length p.vals n x=true->∀h,A2j p locs rg th (ns++[n]) x (r++[bx]) h->A2j p locs rg th ns n r h:=by
   rintro x h1 h2 h3 h ⟨hq,hp,s,rfl,h5,h6⟩
   exact⟨hq,hp,[bx]++s,by rw[append_assoc],h5,fun e=>LH he hth hf hr0 h1 h2 h3 (h6 e)⟩
  by_cases c6:kind=6
  .subst c6
   have hm:=g7.mf rfl
   let x:AI:=⟨th,ns.length,4,0,mode,0,false,false,[]⟩
   rcases lt_or_ge (ns.length+1) 64 with hc|hc
   .have qp:=fun Q=>Mf C p locs rg (ns++[n]) th false (r++[bx]) x rfl (by omega) (Q:=Q)
    obtain⟨_,_,⟨rfl,q8⟩,qk⟩:=DR (IH (ns++[n]) x regs (r++[bx]) rfl rfl rfl (by omega) h0 q0)
    simp only[x,hn,append_assoc,cons_append,nil_append]at qk
    simp only[go_sem,p0,p2,p3,p8,p9,h7,A0,qp,qk,bx,x,hn]
    exact q6 x rfl rfl (by simp[Jd,x,hm.1,hm.2]) _ q8
   .have qp:=fun Q=>Dk C p locs rg (ns++[n]) th false (r++[bx]) x (by omega) (Q:=Q)
    simp only[go_sem,p0,p2,p3,p8,p9,h7,A0,qp,bx,x]
    exact hp _ _ rfl
  have qh:kind=2\/kind=3\/kind=4\/kind=5:=by omega
  obtain⟨lk,qx,qg,_⟩:=HN (p:=fun y=>decide (loc=y)) (l:=locs) (by rw[List.any_eq_true];exact⟨loc,g7.loc qh,by simp⟩)
  rw[qx]at h7
  by_cases c3:kind=3
  .subst c3
   have hm:=g7.ms rfl
   have ha:1<=args.length:=g7.one (by omega)
   obtain⟨a0,ar,rfl⟩:∃a0 ar,args=a0::ar:=by cases args with|nil=>simp at ha|cons a0 ar=>exact⟨a0,ar,rfl⟩
   have ga:=g2 a0 mem_cons_self
   obtain⟨_,⟨y,bb,rfl,hy⟩,qe⟩:=DJ (DX C (rg.getD th []) regs hrl h0 p.vals hv.1 hv.2 a0 ga)
   have qw:=fun Q=>KE C p locs rg (ns++[n]) th hth false (r++[bx]) regs a0 ga qe (Q:=Q)
   let x:AI:=⟨th,ns.length,3,lk,mode,y,false,false,[]⟩
   rcases lt_or_ge (ns.length+1) 64 with hc|hc
   .have qp:=fun Q=>Mf C p locs rg (ns++[n]) th false (r++[bx]) x rfl (by omega) (Q:=Q)
    obtain⟨_,_,⟨rfl,q8⟩,qk⟩:=DR (IH (ns++[n]) x regs (r++[bx]) rfl rfl rfl (by omega) h0 q0)
    simp only[x,hn,append_assoc,cons_append,nil_append]at qk
    simp only[go_sem,p0,p2,p3,p8,p9,h7,A0,ga.len,ga.take,ga.frz,qw,qp,qk,bx,x,hn,ZP,CJ]
    exact q6 x rfl rfl (by rcases hm with hm|hm|hm<;>simp[Jd,x,qg,hy.1,hy.2,hm]) _ q8
   .have qp:=fun Q=>Dk C p locs rg (ns++[n]) th false (r++[bx]) x (by omega) (Q:=Q)
    simp only[go_sem,p0,p2,p3,p8,p9,h7,A0,ga.len,ga.take,ga.frz,qw,qp,bx,x,ZP,CJ]
    exact hp _ _ rfl
  have qo:kind=2\/kind=4\/kind=5:=by omega
  obtain⟨N,hN⟩:=Int.eq_ofNat_of_zero_le (show 0<=p.vals by omega)
  by_cases d2:kind=2
  .subst d2
   have h9:(mode=0\/mode=1\/mode=4)\/(0<=mode/\mode<=4/\∃v,v<N/\(fun _=>false) v=true):=.inl (g7.ml rfl)
   simp only[go_sem,p0,p2,p3,p8,p9,h7,bx,A0]
   unfold VL
   rw[A0]
   refine AJ (M:=Nat) (I:=fun x F h=>x<=N/\RdI p locs rg th ns n lk mode (fun _=>false) r bx x h/\A3.tmp F 0=.p 4 0 0 0/\A3.tmp F 2=.i .i64 (ns.length:Nat)/\A3.tmp F 3=lI regs/\A3.tmp F 8=.p (r.length+1+1+1+1+1) 0 0 0/\A3.tmp F 9=fr (l::fs')/\A3.tmp F 10=.i .i64 lk/\A3.tmp F 13=.i .i64 x) (μ:=fun x=>N-x) ?_ 0 _ _ ⟨zero_le _,⟨ns++[n],false,[],rfl,by simp;omega,fun _=>M0⟩,?_,?_,?_,?_,?_,?_,?_⟩
   .rintro x F h ⟨qq,⟨h4,lg,s,rfl,hc,ho⟩,p0,p2,p3,p8,p9,h7,hb⟩
    cases lg with
    |true=>
     cases c:decide ((x:Int)<p.vals) <;>
     simp only[CL,go_sem,p0,p2,p3,p8,p9,h7,hb,c,A0] <;>
     exact⟨h4,true,_,rfl,hc,fun h=>by cases h⟩
    |false=>
    by_cases hxl:x<N
    .have c:(x:Int)<p.vals:=by omega
     have w1:=Hb (show x<9223372036854775807 by omega)
     have bd:decide (r.length+1+1+1+1+1<r.length+(s.length+1)+1+1+1+1+1)=true:=by rw[decide_eq_true_iff];omega
     let xr:AI:=⟨th,ns.length,2,lk,mode,x,false,false,[]⟩
     have q4:(0:Int)<=(x:Int)/\(x:Int)<p.vals:=⟨by omega,c⟩
     rcases lt_or_ge h4.length 64 with q64|q64
     .have qp:=fun Q=>Mf C p locs rg h4 th false (r++bx::s) xr rfl q64 (Q:=Q)
      obtain⟨_,_,⟨ks,qa,rfl,rfl⟩,qs⟩:=Qe (A08 C p locs rg (h4++[xr]) th hth hrl false (r++bx::s) regs h0 reg x (hh rfl))
      obtain⟨_,_,⟨rfl,hq,lg,s',rfl,hd,hg⟩,qk⟩:=DR (IH h4 xr (regs.set ks x) (r++bx::s) rfl rfl rfl q64 (by simp[h0]) (hj ks x q4))
      simp only[CL,go_sem,p0,p2,p3,p8,p9,h7,hb,c,A0,qp,qs,qk,xr,bx,w1,bd]
      exact⟨x+1,by omega,by omega,⟨hq,lg,s,rfl,hd,fun e=>Jy (ho rfl) rfl he.symm rfl rfl rfl rfl rfl (hg e) (fun h=>by simp_all)⟩,rfl⟩
     .have qp:=fun Q=>Dk C p locs rg h4 th false (r++bx::s) xr q64 (Q:=Q)
      simp only[CL,go_sem,p0,p2,p3,p8,p9,h7,hb,c,A0,qp,xr,bx]
      exact⟨_,true,_,rfl,hc,fun h=>by cases h⟩
    .have q9:x=N:=by omega
     subst q9
     have c:¬(x:Int)<p.vals:=by omega
     simp only[CL,go_sem,p0,p2,p3,p8,p9,h7,hb,c,A0]
     refine⟨h4,false,_,rfl,hc,fun _=>?_⟩
     have:=ho rfl
     rw[hN]at this ⊢
     exact N7 he hth hf hr0 (by omega) ⟨by omega,by omega⟩ h9 this
   all_goals simp only[go_sem,p0,p2,p3,p8,p9,h7]
  by_cases d4:kind=4
  .subst d4
   have ha:1<=args.length:=g7.one (by omega)
   obtain⟨a0,ar,rfl⟩:∃a0 ar,args=a0::ar:=by cases args with|nil=>simp at ha|cons a0 ar=>exact⟨a0,ar,rfl⟩
   have h8:=g2 a0 (by simp)
   obtain⟨_,⟨y0,qv,rfl,pa⟩,qm⟩:=DJ (DX C (rg.getD th []) regs hrl h0 p.vals hv.1 hv.2 a0 h8)
   have h9:(mode=0\/mode=1\/mode=4)\/(0<=mode/\mode<=4/\∃v,v<N/\(fun _=>true) v=true):=.inr ⟨(g7.ma (by omega)).1,(g7.ma (by omega)).2,0,by omega,rfl⟩
   obtain⟨m0,m4⟩:=g7.ma (by omega)
   simp only[go_sem,p0,p2,p3,p8,p9,h7,bx,A0]
   unfold VL
   rw[A0]
   refine AJ (M:=Nat) (I:=fun x F h=>x<=N/\RdI p locs rg th ns n lk mode (fun _=>true) r bx x h/\A3.tmp F 0=.p 4 0 0 0/\A3.tmp F 2=.i .i64 (ns.length:Nat)/\A3.tmp F 3=lI regs/\A3.tmp F 8=.p (r.length+1+1+1+1+1) 0 0 0/\A3.tmp F 9=fr (l::fs')/\A3.tmp F 10=.i .i64 lk/\A3.tmp F 13=.i .i64 x) (μ:=fun x=>N-x) ?_ 0 _ _ ⟨zero_le _,⟨ns++[n],false,[],rfl,by simp;omega,fun _=>M0⟩,?_,?_,?_,?_,?_,?_,?_⟩
   .rintro x F h ⟨qq,⟨h4,lg,s,rfl,hc,ho⟩,p0,p2,p3,p8,p9,h7,hb⟩
    cases lg with
    |true=>
     cases c:decide ((x:Int)<p.vals) <;>
     simp only[CL,go_sem,p0,p2,p3,p8,p9,h7,hb,c,A0] <;>
     exact⟨h4,true,_,rfl,hc,fun h=>by cases h⟩
    |false=>
    by_cases hxl:x<N
    .have c:(x:Int)<p.vals:=by omega
     have w1:=Hb (show x<9223372036854775807 by omega)
     have bd:decide (r.length+1+1+1+1+1<r.length+(s.length+1)+1+1+1+1+1)=true:=by rw[decide_eq_true_iff];omega
     let xr:AI:=⟨th,ns.length,2,lk,mode,x,false,false,[]⟩
     have q4:(0:Int)<=(x:Int)/\(x:Int)<p.vals:=⟨by omega,c⟩
     rcases lt_or_ge h4.length 64 with q64|q64
     .have qp:=fun Q=>Mf C p locs rg h4 th false (r++bx::s) xr rfl q64 (Q:=Q)
      have hu:=fun Q=>KE C p locs rg (h4++[xr]) th hth false (r++bx::s) regs a0 h8 qm (Q:=Q)
      have wz:IntKind.i64.wrap ((x:Int)+y0)=(x:Int)+y0:=Ax (by omega) (by omega)
      have hz:0<=((x:Int)+y0) % p.vals/\((x:Int)+y0) % p.vals<p.vals:=⟨Int.emod_nonneg _ (by omega),Int.emod_lt_of_pos _ (by omega)⟩
      have q5:=fun v Q=>TH C v p.vals (by omega) (by omega) (Q:=Q)
      simp only[xr]at hu
      let yw:AI:=⟨th,h4.length,3,lk,mode,((x:Int)+y0) % p.vals,true,false,[]⟩
      have q7:(h4++[xr]).length=h4.length+1:=by simp
      rcases lt_or_ge (h4.length+1) 64 with r64|r64
      .have hi:=fun Q=>Mf C p locs rg (h4++[xr]) th false (r++bx::s) yw rfl (by omega) (Q:=Q)
       obtain⟨_,_,⟨ks,qa,rfl,rfl⟩,qs⟩:=Qe (A08 C p locs rg ((h4++[xr])++[yw]) th hth hrl false (r++bx::s) regs h0 reg x (hh rfl))
       obtain⟨_,_,⟨rfl,hq,lg,s',rfl,hd,hg⟩,qk⟩:=DR (IH (h4++[xr]) yw (regs.set ks x) (r++bx::s) rfl rfl rfl (by omega) (by simp[h0]) (hj ks x q4))
       simp only[xr,yw,q7,append_assoc,cons_append,nil_append]at hi qs qk
       simp only[CL,go_sem,p0,p2,p3,p8,p9,h7,hb,c,A0,qp,hi,qs,qk,xr,yw,bx,w1,bd,h8.len,h8.take,h8.frz,hu,wz,q5,hz.1,ZP,CJ]
       have ga:Jd locs.length p.vals xr yw=true:=by simp[Jd,xr,yw,qg,hz.1,hz.2,m0,m4]
       exact⟨x+1,by omega,by omega,⟨hq,lg,s,rfl,hd,fun e=>Jy (ho rfl) rfl he.symm rfl rfl rfl rfl rfl (LH (x:=yw) rfl hth rfl rfl rfl rfl ga (hg e)) (fun h=>Pc rfl rfl (hg e))⟩,rfl⟩
      .have hi:=fun Q=>Dk C p locs rg (h4++[xr]) th false (r++bx::s) yw (by omega) (Q:=Q)
       simp only[xr,yw,q7,append_assoc,cons_append,nil_append]at hi
       simp only[CL,go_sem,p0,p2,p3,p8,p9,h7,hb,c,A0,qp,hi,xr,yw,bx,w1,bd,h8.len,h8.take,h8.frz,hu,wz,q5,hz.1,ZP,CJ]
       exact⟨_,true,_,rfl,by simp;omega,fun h=>by cases h⟩
     .have qp:=fun Q=>Dk C p locs rg h4 th false (r++bx::s) xr q64 (Q:=Q)
      simp only[CL,go_sem,p0,p2,p3,p8,p9,h7,hb,c,A0,qp,xr,bx]
      exact⟨_,true,_,rfl,hc,fun h=>by cases h⟩
    .have q9:x=N:=by omega
     subst q9
     have c:¬(x:Int)<p.vals:=by omega
     simp only[CL,go_sem,p0,p2,p3,p8,p9,h7,hb,c,A0]
     refine⟨h4,false,_,rfl,hc,fun _=>?_⟩
     have:=ho rfl
     rw[hN]at this ⊢
     exact N7 he hth hf hr0 (by omega) ⟨by omega,by omega⟩ h9 this
   all_goals simp only[go_sem,p0,p2,p3,p8,p9,h7]
  by_cases d5:kind=5
  .subst d5
   have ha:2<=args.length:=g7.two rfl
   obtain⟨a0,a1,ar,rfl⟩:∃a0 a1 ar,args=a0::a1::ar:=by
    rcases args with _|⟨a0,_|⟨a1,ar⟩⟩
    .simp at ha
    .simp at ha
    .exact⟨a0,a1,ar,rfl⟩
   have h8:=g2 a0 (by simp)
   obtain⟨_,⟨y0,qv,rfl,pa⟩,qm⟩:=DJ (DX C (rg.getD th []) regs hrl h0 p.vals hv.1 hv.2 a0 h8)
   have hr:=g2 a1 (by simp)
   obtain⟨_,⟨y1,pc,rfl,qd⟩,pb⟩:=DJ (DX C (rg.getD th []) regs hrl h0 p.vals hv.1 hv.2 a1 hr)
   have h9:(mode=0\/mode=1\/mode=4)\/(0<=mode/\mode<=4/\∃v,v<N/\(fun j=>decide ((j:Int)=y0)) v=true):=.inr ⟨(g7.ma (by omega)).1,(g7.ma (by omega)).2,y0.toNat,by omega,by simp;omega⟩
   obtain⟨m0,m4⟩:=g7.ma (by omega)
   simp only[go_sem,p0,p2,p3,p8,p9,h7,bx,A0]
   unfold VL
   rw[A0]
   refine AJ (M:=Nat) (I:=fun x F h=>x<=N/\RdI p locs rg th ns n lk mode (fun j=>decide ((j:Int)=y0)) r bx x h/\A3.tmp F 0=.p 4 0 0 0/\A3.tmp F 2=.i .i64 (ns.length:Nat)/\A3.tmp F 3=lI regs/\A3.tmp F 8=.p (r.length+1+1+1+1+1) 0 0 0/\A3.tmp F 9=fr (l::fs')/\A3.tmp F 10=.i .i64 lk/\A3.tmp F 13=.i .i64 x) (μ:=fun x=>N-x) ?_ 0 _ _ ⟨zero_le _,⟨ns++[n],false,[],rfl,by simp;omega,fun _=>M0⟩,?_,?_,?_,?_,?_,?_,?_⟩
   .rintro x F h ⟨qq,⟨h4,lg,s,rfl,hc,ho⟩,p0,p2,p3,p8,p9,h7,hb⟩
    cases lg with
    |true=>
     cases c:decide ((x:Int)<p.vals) <;>
     simp only[CL,go_sem,p0,p2,p3,p8,p9,h7,hb,c,A0] <;>
     exact⟨h4,true,_,rfl,hc,fun h=>by cases h⟩
    |false=>
    by_cases hxl:x<N
    .have c:(x:Int)<p.vals:=by omega
     have w1:=Hb (show x<9223372036854775807 by omega)
     have bd:decide (r.length+1+1+1+1+1<r.length+(s.length+1)+1+1+1+1+1)=true:=by rw[decide_eq_true_iff];omega
     let xr:AI:=⟨th,ns.length,2,lk,mode,x,false,false,[]⟩
     have q4:(0:Int)<=(x:Int)/\(x:Int)<p.vals:=⟨by omega,c⟩
     rcases lt_or_ge h4.length 64 with q64|q64
     .have qp:=fun Q=>Mf C p locs rg h4 th false (r++bx::s) xr rfl q64 (Q:=Q)
      have hu:=fun Q=>KE C p locs rg (h4++[xr]) th hth false (r++bx::s) regs a0 h8 qm (Q:=Q)
      have qn:=fun Q=>KE C p locs rg (h4++[xr]) th hth false (r++bx::s) regs a1 hr pb (Q:=Q)
      simp only[xr]at hu qn
      by_cases d0:(x:Int)=y0
      .subst d0
       let yw:AI:=⟨th,h4.length,3,lk,mode,y1,true,false,[]⟩
       have q7:(h4++[xr]).length=h4.length+1:=by simp
       rcases lt_or_ge (h4.length+1) 64 with r64|r64
       .have hi:=fun Q=>Mf C p locs rg (h4++[xr]) th false (r++bx::s) yw rfl (by omega) (Q:=Q)
        obtain⟨_,_,⟨ks,qa,rfl,rfl⟩,qs⟩:=Qe (A08 C p locs rg ((h4++[xr])++[yw]) th hth hrl false (r++bx::s) regs h0 reg x (hh rfl))
        obtain⟨_,_,⟨rfl,hq,lg,s',rfl,hd,hg⟩,qk⟩:=DR (IH (h4++[xr]) yw (regs.set ks x) (r++bx::s) rfl rfl rfl (by omega) (by simp[h0]) (hj ks x q4))
        simp only[xr,yw,q7,append_assoc,cons_append,nil_append]at hi qs qk
        simp only[CL,go_sem,p0,p2,p3,p8,p9,h7,hb,c,A0,qp,hi,qs,qk,xr,yw,bx,w1,bd,h8.len,h8.take,h8.frz,hr.len,hr.take,hr.frz,hu,qn,qd.1,ZP,CJ]
        have ga:Jd locs.length p.vals xr yw=true:=by simp[Jd,xr,yw,qg,qd.1,qd.2,m0,m4]
        exact⟨x+1,by omega,by omega,⟨hq,lg,s,rfl,hd,fun e=>Jy (ho rfl) rfl he.symm rfl rfl rfl rfl rfl (LH (x:=yw) rfl hth rfl rfl rfl rfl ga (hg e)) (fun h=>Pc rfl rfl (hg e))⟩,rfl⟩
       .have hi:=fun Q=>Dk C p locs rg (h4++[xr]) th false (r++bx::s) yw (by omega) (Q:=Q)
        simp only[xr,yw,q7,append_assoc,cons_append,nil_append]at hi
        simp only[CL,go_sem,p0,p2,p3,p8,p9,h7,hb,c,A0,qp,hi,xr,yw,bx,w1,bd,h8.len,h8.take,h8.frz,hr.len,hr.take,hr.frz,hu,qn,qd.1,ZP,CJ]
        exact⟨_,true,_,rfl,by simp;omega,fun h=>by cases h⟩
      .have pd:decide ((x:Int)=y0)=false:=by simp[d0]
       obtain⟨_,_,⟨ks,qa,rfl,rfl⟩,qs⟩:=Qe (A08 C p locs rg (h4++[xr]) th hth hrl false (r++bx::s) regs h0 reg x (hh rfl))
       obtain⟨_,_,⟨rfl,hq,lg,s',rfl,hd,hg⟩,qk⟩:=DR (IH h4 xr (regs.set ks x) (r++bx::s) rfl rfl rfl q64 (by simp[h0]) (hj ks x q4))
       simp only[CL,go_sem,p0,p2,p3,p8,p9,h7,hb,c,A0,qp,qs,qk,xr,bx,w1,bd,h8.len,h8.take,h8.frz,hu,d0,ZP,CJ]
       exact⟨x+1,by omega,by omega,⟨hq,lg,s,rfl,hd,fun e=>Jy (ho rfl) rfl he.symm rfl rfl rfl rfl rfl (hg e) (fun h=>by simp_all)⟩,rfl⟩
     .have qp:=fun Q=>Dk C p locs rg h4 th false (r++bx::s) xr q64 (Q:=Q)
      simp only[CL,go_sem,p0,p2,p3,p8,p9,h7,hb,c,A0,qp,xr,bx]
      exact⟨_,true,_,rfl,hc,fun h=>by cases h⟩
    .have q9:x=N:=by omega
     subst q9
     have c:¬(x:Int)<p.vals:=by omega
     simp only[CL,go_sem,p0,p2,p3,p8,p9,h7,hb,c,A0]
     refine⟨h4,false,_,rfl,hc,fun _=>?_⟩
     have:=ho rfl
     rw[hN]at this ⊢
     exact N7 he hth hf hr0 (by omega) ⟨by omega,by omega⟩ h9 this
   all_goals simp only[go_sem,p0,p2,p3,p8,p9,h7]
  omega
end
structure GP2(p:PP):Prop where
 gp:GP p.nm p.vals p.ini p.thr p.ask [.i .i64 p.op,.i .i64 p.th,.s p.cn,.i .i64 p.n,.ls p.kids]
 v2:2<=p.vals
 v4:p.vals<=4
 i4:p.ini.length<=4
 nd:(p.ini.map (·.1)).Nodup
 iv:∀x∈p.ini,0<=x.2/\x.2<p.vals
 t1:1<=p.thr.length
 t4:p.thr.length<=4
abbrev PP.v(p:PP):VV:=.ag [.s p.nm,.i .i64 p.vals,.ls (p.ini.map eCl),.ls (p.thr.map fun l=>[.ls l]),.i .i64 p.ask,.i .i64 p.op,.i .i64 p.th,.s p.cn,.i .i64 p.n,.ls p.kids]
abbrev PP.f(p:PP):VV:=.fp [.s p.nm,.i .i64 p.vals,.ls (p.ini.map eCl),.ls (p.thr.map fun l=>[.ls l]),.i .i64 p.ask,.i .i64 p.op,.i .i64 p.th,.s p.cn,.i .i64 p.n,.ls p.kids] 0
def Afc(p:PP)(k:Nat)(rg:List (List ByteArray)):Prop:=rg.length=k/\∀(j:Nat) (hj:j<p.thr.length),j<k->((rg.getD j []).Nodup/\(∀n∈rg.getD j [],n∈N4)/\∀r∈p.thr[j],RI (rg.getD j []) r)
def HBr(p:PP)(k:Nat)(h:VH):Prop:=∃rg,Afc p k rg/\h=hB p (p.ini.map (·.1)) rg [] 0 false []
def HBt(p:PP)(rg:List (List ByteArray))(k:Nat)(h:VH):Prop:=∃(ns:List AI) (th:Int) (long:Bool) ,h=hB p (p.ini.map (·.1)) rg ns th long []/\ns.length<=64/\(long=false->Thr p.vals (p.ini.map (·.1)) rg k ns)
theorem Afc.step{p:PP}{k:Nat}{rg:List (List ByteArray)}(h:Afc p k rg)(hk:k<p.thr.length){o:List ByteArray}(h1:o.Nodup)(h2:∀n∈o,n∈N4)(h3:∀r∈p.thr[k],RI o r):Afc p (k+1) (rg++[o]):=by
 obtain⟨e,h⟩:=h
 refine⟨by simp[e],fun j hj hjk=>?_⟩
 by_cases ej:j=k
 .subst ej
  have:(rg++[o]).getD j []=o:=by rw[<- e];simp
  rw[this];exact⟨h1,h2,h3⟩
 .have:(rg++[o]).getD j []=rg.getD j []:=by
   rw[List.getD_eq_getElem?_getD,List.getElem?_append_left (by omega),List.getD_eq_getElem?_getD]
  rw[this];exact h j hj (by omega)
section
variable {V:Ai}(C:Am V){Q:VV->Prop}
include C
theorem SG(p:PP)(h:GP2 p):VP V A89 [p.v] fun x=>∃(t:A2) (e:Int),x=.tu [vT t,.i .i64 e]/\(e=0->A7 t):=by
 obtain⟨gp,v2,v4,i4,nd,iv,t1,t4⟩:=h
 rw[Ad C.c_z74.1 C.c_z74.2]
 obtain⟨_,⟨e0,k0,rfl⟩,qm⟩:=DJ (A5r C p.nm p.vals p.ini p.thr p.ask _ gp)
 simp only[vPr,cons_append,nil_append]at qm
 obtain⟨g1,g2,g3,g4,g5,g6⟩:=gp
 by_cases z0:e0=0
 .subst z0
  simp only[A6r,go_sem,qm,AL]
  have h3:∀k (hk:k<p.ini.length),(p.ini.take (k+1)).map (·.1)=(p.ini.take k).map (·.1)++[p.ini[k].1]:=fun k hk=>by rw[List.take_succ_eq_append_getElem hk,List.map_append];rfl
  have hc:∀k,k<=p.ini.length->((p.ini.take k).map (·.1)).length=k:=fun k hk=>by simp;omega
  refine Ab (by decide) p.ini.length (by omega) (I:=fun k F h=>h=hB p ((p.ini.take k).map (·.1)) [] [] 0 false []/\A3.tmp F 1=p.f/\A3.tmp F 6=.p 4 0 0 0/\A3.tmp F 2=.p 0 0 0 0) ?_ ?_ ?_ 0 _ _ (zero_le _) ?_ ?_
  .rintro k F h hk p7 ⟨rfl,p1,p6,p2⟩
   simp only[go_sem,p7,p1,p6,p2]
  .rintro k F h hk p7 ⟨rfl,p1,p6,p2⟩
   have h0:p.ini[k]? = some p.ini[k]:=getElem?_eq_getElem hk
   rw[h3 k hk]
   have ha:=hc k (by omega)
   generalize (p.ini.take k).map (·.1)=L at *
   subst ha
   have b1:(L.length+1) * 16<=A6:=by unfold A6;omega
   simp only[go_sem,p7,p1,p6,p2,h0,b1]
   simp only[hB,eBd,length_append,length_cons,length_nil]
  .rintro F h ⟨rfl,p1,p6,p2⟩
   rw[List.take_length]
   simp only[go_sem,p1,p6,p2]
   refine Ab (by decide) p.thr.length (by omega) (I:=fun k F h=>HBr p k h/\A3.tmp F 1=p.f/\A3.tmp F 6=.p 4 0 0 0/\A3.tmp F 2=.p 0 0 0 0) ?_ ?_ ?_ 0 _ _ (zero_le _) ?_ ?_
   .rintro k F h hk p8 ⟨⟨rg,h1,rfl⟩,p1,p6,p2⟩
    simp only[go_sem,p8,p1,p6,p2]
    exact⟨rg,h1,rfl⟩
   .rintro k F h hk p8 ⟨⟨rg,h1,rfl⟩,p1,p6,p2⟩
    have h0:p.thr[k]? = some p.thr[k]:=getElem?_eq_getElem hk
    obtain⟨m1,m2⟩:=g5 _ (getElem_mem hk)
    obtain⟨_,⟨o,rfl,o1,o2,o3⟩,qr⟩:=DJ (A1D C p.thr[k] m1 m2)
    have he:=h1.step hk o1 o2 o3
    have hl:=h1.1
    subst hl
    have b1:(rg.length+1) * 24<=A6:=by unfold A6;omega
    simp only[go_sem,p8,p1,p6,p2,h0,qr,b1,ZP,CJ]
    have e1:rg.map J8++[[VV.ls (List.map eS o)]]=(rg++[o]).map J8:=by simp
    rw[e1]
    refine⟨.inr (Hh fun x=>rfl),rg++[o],he,?_⟩
    have e2:({ ty:=BU,esz:=1,ver:=rg.length+1,nl:=false,rows:=(rg++[o]).map J8 }:VO)=AN BU 1 ((rg++[o]).map J8):=GK rfl
    rw[e2]
    simp only[hB,eBd,length_append,length_cons,length_nil,length_map]
   .rintro F h ⟨⟨rg,h1,rfl⟩,p1,p6,p2⟩
    have hl:=h1.1
    have h8:∀l∈rg,l.length<=4/\l.Nodup:=fun l hl=>by
     obtain⟨j,hj,e⟩:=List.mem_iff_getElem.1 hl
     have q:=h1.2 j (by omega) (by omega)
     rw[List.getD_eq_getElem?_getD,getElem?_eq_getElem hj,Option.getD_some,e]at q
     exact⟨Nl q.1 q.2.1,q.1⟩
    simp only[go_sem,p1,p6,p2]
    refine Ab (by decide) p.ini.length (by omega) (I:=fun k F h=>h=hB p (p.ini.map (·.1)) rg (Sw p.ini k) 0 false []/\A3.tmp F 1=p.f/\A3.tmp F 6=.p 4 0 0 0/\A3.tmp F 2=.p 0 0 0 0) ?_ ?_ ?_ 0 _ _ (zero_le _) ?_ ?_
    .rintro k F h hk p9 ⟨rfl,p1,p6,p2⟩
     simp only[go_sem,p9,p1,p6,p2]
    .rintro k F h hk p9 ⟨rfl,p1,p6,p2⟩
     have h0:p.ini[k]? = some (p.ini.getD k default):=by rw[List.getD_eq_getElem?_getD,getElem?_eq_getElem hk];rfl
     have qp:=fun Q=>Mf C p (p.ini.map (·.1)) rg (Sw p.ini k) 0 false [] ⟨-1,-1,3,k,0,(p.ini.getD k default).2,false,false,[]⟩ rfl (by rw[Ms];omega) (Q:=Q)
     simp only[go_sem,p9,p1,p6,p2,h0,qp]
     rw[A9T]
    .rintro F h ⟨rfl,p1,p6,p2⟩
     simp only[go_sem,p1,p6,p2]
     have hz:=AeB (vals:=p.vals) (rg:=rg) iv
     unfold VL
     rw[A0]
     refine AJ (M:=Nat) (I:=fun i F h=>i<=p.thr.length/\HBt p rg i h/\A3.tmp F 1=p.f/\A3.tmp F 6=.p 4 0 0 0/\A3.tmp F 2=.p 0 0 0 0/\A3.tmp F 10=.i .i64 i) (μ:=fun i=>p.thr.length-i) ?_ 0 _ _ ⟨zero_le _,⟨Sw p.ini p.ini.length,0,false,rfl,by rw[Ms];omega,fun _=>hz⟩,?_,?_,?_,?_⟩
     .rintro i F h ⟨hi,⟨ns,th,h6,rfl,h7,h9⟩,p1,p6,p2,h4⟩
      cases h6 with
      |true=>
       cases c:decide (i<p.thr.length) <;>
       simp only[QJ,go_sem,p1,p6,p2,h4,c,A0]
       all_goals exact⟨⟨0,[],[],[]⟩,3,rfl,fun h=>by cases h⟩
      |false=>
      by_cases hil:i<p.thr.length
      .have h2:i<rg.length:=by omega
       have h0:p.thr[i]? = some p.thr[i]:=getElem?_eq_getElem hil
       obtain⟨m1,m2⟩:=g5 _ (getElem_mem hil)
       have w1:=Hb (show i<9223372036854775807 by omega)
       have c:(i:Int)<p.thr.length:=by omega
       have hd:=(h1.2 i hil (by omega)).2.2
       have hh:=(h8 _ (Aa (d:=[]) h2)).1
       have hx:=Gp (ty:=BU) (e:=1) (rows:=rg.map J8) (by rw[length_map];omega)
       have b8:(rg.getD i []).length * 8<=A6:=by unfold A6;omega
       let x:AI:=⟨i,-1,1,0,0,0,false,false,[]⟩
       rcases lt_or_ge ns.length 64 with q64|q64
       .have qp:=fun Q=>Mf C p (p.ini.map (·.1)) rg ns i false [] x rfl q64 (Q:=Q)
        obtain⟨_,_,⟨rfl,hf,lg,s',rfl,h5,hg⟩,qk⟩:=DR (Ajx C p ⟨v2,v4⟩ (p.ini.map (·.1)) (by simp;omega) rg i h2 (by omega) _ [p.thr[i]] (Nat.le_refl _) (fun l hl=>by
         rw[List.mem_singleton.1 hl];exact⟨m1,fun s hs=>⟨m2 s hs,hd s hs⟩⟩) ns x (List.replicate (rg.getD i []).length 0) [] rfl rfl rfl q64 (by simp) (fun v hv=>by rw[(List.mem_replicate.1 hv).2];omega))
        simp only[fr,x,nil_append,hB,eBd,length_map,length_append,length_cons,length_nil,zero_add]at qk
        simp only[hB,eBd,length_map,length_append,length_cons,length_nil,zero_add]at qp
        simp only[QJ,go_sem,p1,p6,p2,h4,c,A0,h0,hil,h2,hx,K4 h2,b8,qp,qk,x,w1]
        exact⟨i+1,by omega,by omega,⟨hf,i,lg,by simp only[hB,eBd,length_map],h5,fun e=>AeA (h9 rfl) rfl (hg e)⟩,rfl⟩
       .have qp:=fun Q=>Dk C p (p.ini.map (·.1)) rg ns i false [] x q64 (Q:=Q)
        simp only[hB,eBd,length_map,length_append,length_cons,length_nil,zero_add]at qp
        simp only[QJ,go_sem,p1,p6,p2,h4,c,A0,h0,hil,h2,hx,qp,x,w1]
        exact⟨i+1,by omega,by omega,⟨ns,i,true,by simp only[hB,eBd,length_map],h7,fun e=>by cases e⟩,rfl⟩
      .have hb:i=p.thr.length:=by omega
       have c:¬(i:Int)<p.thr.length:=by omega
       subst hb
       simp only[QJ,go_sem,p1,p6,p2,h4,c,A0]
       refine⟨TT p.vals (p.ini.map (·.1)) rg ns,0,rfl,fun _=>?_⟩
       have:=h9 rfl
       rw[<- hl]at this
       exact Aar this v2 v4 (by simpa using i4) nd h7 (by omega) (by omega) h8
     all_goals simp only[go_sem,p1,p6,p2]
    .simp only[go_sem]
    .simp only[go_sem,p1,p6,p2]
     rfl
   .simp only[go_sem,p1,p6,p2]
   .simp only[go_sem,p1,p6,p2]
    exact⟨[],⟨rfl,fun j hj hjk=>by omega⟩,rfl⟩
  .simp only[go_sem]
  .simp only[go_sem]
   rfl
 .simp only[A6r,go_sem,qm,z0]
  exact⟨⟨0,[],[],[]⟩,e0,rfl,fun h=>absurd h z0⟩
end
theorem J7.mono{V:Ai}{g:Nat}{pa:List VV}{h:VH}{Q Q':VV->VH->Prop}(k:J7 V g pa h Q)(i:∀v h,Q v h->Q' v h):J7 V g pa h Q':=by
 obtain⟨vf,h1,h2⟩:=k
 exact⟨vf,h1,h2.mono fun v h' ⟨r,ids,e1,e2,e3⟩=>⟨r,ids,e1,e2,i _ _ e3⟩⟩
attribute [go_sem] RO List.contains_cons List.contains_nil
@[go_sem] theorem Av9 (n:Nat):(n+1==0)=false:=rfl
@[go_sem] theorem AsE:((0:Nat)==0)=true:=rfl
theorem Agj(j:Nat):∀(ids:List Nat) (h:VH),j∉ids->(Bw ids h)[j]? = h[j]?:=by
 intro ids
 induction ids with
 |nil=>intro h _;rfl
 |cons i ids ih=>
  intro h hj
  rw[Bw,ih _ fun x=>hj (mem_cons_of_mem _ x),List.getElem?_set_ne fun e=>hj (by rw[<- e];exact mem_cons_self)]
theorem A7I{args:List VV}(h:VH)(j:Nat)(h1:(RO args).contains j=true):(Bw (Kd args h) h)[j]? = h[j]?:=by
 refine Agj j _ h ?_
 unfold Kd
 rw[List.mem_filter,h1]
 exact fun h=>absurd h.2 (by simp)
theorem EK{args:List VV}(y x:Option VO)(r:VH)(h1:(RO args).contains 1=true):∃p:Option VO×VH,Bw (Kd args (y::x::r)) (y::x::r)=p.1::x::p.2:=by
 have:=A7I (y::x::r) 1 h1
 generalize Bw (Kd args (y::x::r)) (y::x::r)=q at *
 rcases q with _|⟨a,_|⟨b,q⟩⟩
 .simp at this
 .simp at this
 .simp at this
  exact⟨(a,q),by rw[this]⟩
theorem J7.to2{V:Ai}{g:Nat}{pa:List VV}{h:VH}{Q:VV->VH->Prop}(k:J7 V g pa h Q):Lx V g pa h fun _ _=>True:=by
 obtain⟨vf,h1,h2⟩:=k
 exact⟨vf,h1,h2.mono fun _ _ _=>trivial⟩
abbrev MO(l:List U8)(a:Nat):Option VO:=some ⟨M9,0,0,false,[[lU l,.i .i64 a]]⟩
def MS(x0:Option VO)(l:List U8)(r h:VH):Prop:=∃a,a<=l.length/\h=x0::MO l a::r
def Ua(k:Nat):ByteArray:=match k with|0=>bs [120]|1=>bs [121]|2=>bs [122]|_=>bs [119]
def Sm(k:Nat):ByteArray:=match k with|0=>bs [97]|1=>bs [98]|2=>bs [99]|_=>bs [100]
def KR(v:VV):Prop:=∃l:List ByteArray,l.Nodup/\(∀n∈l,n∈N4)/\(v=lS l\/(v=.nl/\l=[]))
theorem He:min 1 6=1:=rfl
theorem Hf:min 2 6=2:=rfl
def AtM(v:VV):Prop:=∃row,v=.ag row/\GE row
section
variable {V:Ai}(C:Am V){Q:VV->Prop}
include C
theorem AU(l:List U8)(hl:l.length<=1000/\∀x∈l,x.n<256)(a:Nat)(ha:a<=l.length)(n:Int)(r:VH){x0:Option VO} :
  J7 V Ty [.p 1 0 0 0,.i .i64 n] (x0::MO l a::r) fun v h=>∃k:Nat,v=.i .i64 k/\(1<=n->(k:Int)<n)/\MS x0 l r h:=by
 rw[DG C.h_z75]
 by_cases c1:l.length<=a
 .simp only[A0C,go_sem,c1]
  exact⟨0,rfl,fun h=>by omega,a,ha,rfl⟩
 .by_cases c2:n<1
  .simp only[A0C,go_sem,c1,c2]
   exact⟨0,rfl,fun h=>by omega,a,ha,rfl⟩
  .have h1:a<l.length:=by omega
   have h0:l[a]? = some l[a]:=getElem?_eq_getElem h1
   have hb:=hl.2 _ (getElem_mem h1)
   have w0:IntKind.i64.wrap ((l[a].n:Nat):Int)=(l[a].n:Nat):=Ax (by omega) (by omega)
   have w3:((l[a].n:Nat):Int).tmod n=(((l[a].n:Nat):Int) % n):=Int.tmod_eq_emod_of_nonneg (by omega)
   have w1:=Hb (show a<9223372036854775807 by omega)
   have w2:IntKind.i64.wrap (((a+1:Nat):Int)-1)=(a:Int):=by rw[Ax (by omega) (by omega)];omega
   simp only[A0C,go_sem,c1,c2,h0,w1,w2,H8 (show n≠0 by omega),w0,w3]
   have m1:=Int.emod_nonneg ((l[a].n:Nat):Int) (show n≠0 by omega)
   have m2:=Int.emod_lt_of_pos ((l[a].n:Nat):Int) (show 0<n by omega)
   exact⟨(((l[a].n:Nat):Int) % n).toNat,by omega,fun h=>by omega,a+1,by omega,rfl⟩
theorem HB(k:Nat)(hk:k<4):VP V A5g [.i .i64 k] Q↔Q (.s (Ua k)):=by
 refine Af ?_
 rw[Ad C.c_z197.1 C.c_z197.2]
 have hm:((k:Int)).tmod 4=k:=by rw[Int.tmod_eq_emod_of_nonneg (by omega)];omega
 have w1:=Hb (show k<9223372036854775807 by omega)
 have hb:k<=k+1/\k+1<=({ toList:=[120,121,122,119] }:Array UInt8).size:=⟨by omega,by show k+1<=4;omega⟩
 simp only[AbF,go_sem,H8 (show(4:Int)≠0 by decide),hm,w1,hb]
 rcases(show k=0\/k=1\/k=2\/k=3 by omega)with rfl|rfl|rfl|rfl<;>rfl
theorem AlE(k:Nat)(hk:k<4):VP V A5k [.i .i64 k] Q↔Q (.s (Sm k)):=by
 refine Af ?_
 rw[Ad C.c_z225.1 C.c_z225.2]
 have hm:((k:Int)).tmod 4=k:=by rw[Int.tmod_eq_emod_of_nonneg (by omega)];omega
 have w1:=Hb (show k<9223372036854775807 by omega)
 have hb:k<=k+1/\k+1<=({ toList:=[97,98,99,100] }:Array UInt8).size:=⟨by omega,by show k+1<=4;omega⟩
 simp only[AbK,go_sem,H8 (show(4:Int)≠0 by decide),hm,w1,hb]
 rcases(show k=0\/k=1\/k=2\/k=3 by omega)with rfl|rfl|rfl|rfl<;>rfl
abbrev vHp(vals:Int)(nl:Nat):VV:=.ag [.i .i64 vals,.i .i64 nl,.b false,.b false]
abbrev fHp(vals:Int)(nl:Nat):VV:=.fp [.i .i64 vals,.i .i64 nl,.b false,.b false] 0
theorem Mx(l:List U8)(hl:l.length<=1000/\∀x∈l,x.n<256)(a:Nat)(ha:a<=l.length)(vals:Int)(nl:Nat)(ms:List Int)(hm:1<=ms.length/\ms.length<=1000)(r:VH){x0:Option VO} :
  J7 V A5l [.p 1 0 0 0,vHp vals nl,lI ms] (x0::MO l a::r) fun v h=>(∃k:Int,v=.i .i64 k/\k∈ms)/\MS x0 l r h:=by
 rw[DG C.h_z226]
 simp only[AbL,go_sem]
 refine(AU C l hl a ha _ r).mono ?_
 rintro _ _ ⟨k,rfl,hk,a,ha,rfl⟩
 have hk:=hk (by omega)
 have h0:k<ms.length:=by omega
 simp only[go_sem,Ak h0]
 exact⟨Aa h0,a,ha,rfl⟩
theorem KS(l:List U8)(hl:l.length<=1000/\∀x∈l,x.n<256)(vals:Int)(hv:1<=vals/\vals<=4)(d:Nat):d<=1000->∀(a:Nat) (ha:a<=l.length) (rg:VV) (hrg:KR rg) (r:VH) {x0:Option VO},
  J7 V Ro [.p 1 0 0 0,rg,.i .i64 vals,.i .i64 d] (x0::MO l a::r) fun v h=>AtM v/\MS x0 l r h:=by
 induction d with
 |zero=>
  intro _ a ha rg hrg r x0
  rw[DG C.h_z227]
  simp only[UY,go_sem]
  refine(AU C l hl a ha _ _).mono ?_
  rintro _ _ ⟨k,rfl,hk,a,ha,rfl⟩
  obtain⟨h1,h6,h4,e⟩:=hrg
  have h5:=Nl h6 h4
  have h2:∀(a:Nat) (ha:a<=l.length) (Q:VV->VH->Prop),(∀(k:Nat) (a:Nat),a<=l.length->Q (.i .i64 k) (x0::MO l a::(r++[some { ty:=Dj,esz:=0,ver:=0,nl:=false,rows:=[[.i .i64 0,.i .i64 0,.s (bs []),.nl]] }]))) ->
    J7 V Ty [.p 1 0 0 0,.i .i64 vals] (x0::MO l a::(r++[some { ty:=Dj,esz:=0,ver:=0,nl:=false,rows:=[[.i .i64 0,.i .i64 0,.s (bs []),.nl]] }])) Q:=fun a ha Q hq=>
   (AU C l hl a ha _ _).mono (by rintro _ _ ⟨k,rfl,_,a,ha,rfl⟩;exact hq k a ha)
  rcases e with rfl|⟨rfl,rfl⟩
  .by_cases z:h1.length=0
   .have z':¬(0:Int)<h1.length:=by omega
    simp only[go_sem,z']
    refine h2 a ha _ ?_
    intro k a ha
    simp only[go_sem]
    exact⟨⟨_,rfl,.mk _ _ _ _ (by simp) (by simp)⟩,a,ha,rfl⟩
   .have z':(0:Int)<h1.length:=by omega
    by_cases z2:(2:Int)<k
    .simp only[go_sem,z',z2]
     refine(AU C l hl a ha _ _).mono ?_
     rintro _ _ ⟨k,rfl,hk,a,ha,rfl⟩
     have hk:=hk (by omega)
     have h3:k<h1.length:=by omega
     simp only[go_sem,Pn h3]
     exact⟨⟨_,rfl,.mk _ _ _ _ (by simp) (by simp)⟩,a,ha,rfl⟩
    .simp only[go_sem,z',z2]
     refine h2 a ha _ ?_
     intro k a ha
     simp only[go_sem]
     exact⟨⟨_,rfl,.mk _ _ _ _ (by simp) (by simp)⟩,a,ha,rfl⟩
  .simp only[go_sem,Int.lt_irrefl,dz0]
   refine h2 a ha _ ?_
   intro k a ha
   simp only[go_sem]
   exact⟨⟨_,rfl,.mk _ _ _ _ (by simp) (by simp)⟩,a,ha,rfl⟩
 |succ d ih=>
  intro hd a ha rg hrg r x0
  have c0:(0:Int)<((d+1:Nat):Int):=by omega
  rw[DG C.h_z227]
  simp only[UY,go_sem,c0]
  refine(AU C l hl a ha _ _).mono ?_
  rintro _ _ ⟨k,rfl,hk,a,ha,rfl⟩
  by_cases c5:(5:Int)<k
  .simp only[go_sem,c5]
   refine(AU C l hl a ha _ _).mono ?_
   rintro _ _ ⟨k2,rfl,h8,a,ha,rfl⟩
   have w1:IntKind.i64.wrap (((d+1:Nat):Int)-1)=((d:Nat):Int):=by rw[Ax (by omega) (by omega)];omega
   have h0:=hrg
   obtain⟨h1,_,_,e⟩:=hrg
   rcases e with rfl|⟨rfl,rfl⟩
   .simp only[go_sem,w1]
    refine(ih (by omega) a ha _ h0 _).mono ?_
    rintro _ _ ⟨⟨r1,rfl,g1⟩,a,ha,rfl⟩
    cases g1 with
    |mk o1 n1 m1 ks1 q1 q2=>
    simp only[go_sem,w1]
    obtain⟨⟨y0,r'⟩,h7⟩:=EK (args:=[.p 1 0 0 0,lS h1,.i .i64 vals,.i .i64 d]) x0 (MO l a) (r++[some { ty:=Dj,esz:=0,ver:=0,nl:=false,rows:=[[.i .i64 0,.i .i64 0,.s (bs []),.nl]] },some { ty:=Dj,esz:=0,ver:=0,nl:=false,rows:=[[.i .i64 o1,.i .i64 n1,.s m1,.ls ks1]] }]) rfl
    refine⟨?_,?_⟩
    .rw[h7]
     exact(ih (by omega) a ha _ h0 _).to2
    refine(ih (by omega) a ha _ h0 _).mono ?_
    rintro _ _ ⟨⟨r2,rfl,g2⟩,a,ha,rfl⟩
    cases g2 with
    |mk o2 n2 m2 ks2 q3 q4=>
    simp only[go_sem,w1]
    exact⟨⟨_,rfl,.mk _ _ _ _ (by simp) (fun x hx=>by
     rcases List.mem_cons.1 hx with rfl|hx
     .exact .mk _ _ _ _ q1 q2
     .rw[List.mem_singleton.1 hx];exact .mk _ _ _ _ q3 q4)⟩,a,ha,rfl⟩
   .simp only[go_sem,w1]
    refine(ih (by omega) a ha _ h0 _).mono ?_
    rintro _ _ ⟨⟨r1,rfl,g1⟩,a,ha,rfl⟩
    cases g1 with
    |mk o1 n1 m1 ks1 q1 q2=>
    simp only[go_sem,w1]
    obtain⟨⟨y0,r'⟩,h7⟩:=EK (args:=[.p 1 0 0 0,.nl,.i .i64 vals,.i .i64 d]) x0 (MO l a) (r++[some { ty:=Dj,esz:=0,ver:=0,nl:=false,rows:=[[.i .i64 0,.i .i64 0,.s (bs []),.nl]] },some { ty:=Dj,esz:=0,ver:=0,nl:=false,rows:=[[.i .i64 o1,.i .i64 n1,.s m1,.ls ks1]] }]) rfl
    refine⟨?_,?_⟩
    .rw[h7]
     exact(ih (by omega) a ha _ h0 _).to2
    refine(ih (by omega) a ha _ h0 _).mono ?_
    rintro _ _ ⟨⟨r2,rfl,g2⟩,a,ha,rfl⟩
    cases g2 with
    |mk o2 n2 m2 ks2 q3 q4=>
    simp only[go_sem,w1]
    exact⟨⟨_,rfl,.mk _ _ _ _ (by simp) (fun x hx=>by
     rcases List.mem_cons.1 hx with rfl|hx
     .exact .mk _ _ _ _ q1 q2
     .rw[List.mem_singleton.1 hx];exact .mk _ _ _ _ q3 q4)⟩,a,ha,rfl⟩
  .simp only[go_sem,c5]
   obtain⟨h1,h6,h4,e⟩:=hrg
   have h5:=Nl h6 h4
   have h2:∀(a:Nat) (ha:a<=l.length) (Q:VV->VH->Prop),(∀(k:Nat) (a:Nat),a<=l.length->Q (.i .i64 k) (x0::MO l a::(r++[some { ty:=Dj,esz:=0,ver:=0,nl:=false,rows:=[[.i .i64 0,.i .i64 0,.s (bs []),.nl]] }]))) ->
     J7 V Ty [.p 1 0 0 0,.i .i64 vals] (x0::MO l a::(r++[some { ty:=Dj,esz:=0,ver:=0,nl:=false,rows:=[[.i .i64 0,.i .i64 0,.s (bs []),.nl]] }])) Q:=fun a ha Q hq=>
    (AU C l hl a ha _ _).mono (by rintro _ _ ⟨k,rfl,_,a,ha,rfl⟩;exact hq k a ha)
   rcases e with rfl|⟨rfl,rfl⟩
   .by_cases z:h1.length=0
    .have z':¬(0:Int)<h1.length:=by omega
     simp only[go_sem,z']
     refine h2 a ha _ ?_
     intro k a ha
     simp only[go_sem]
     exact⟨⟨_,rfl,.mk _ _ _ _ (by simp) (by simp)⟩,a,ha,rfl⟩
    .have z':(0:Int)<h1.length:=by omega
     by_cases z2:(2:Int)<k
     .simp only[go_sem,z',z2]
      refine(AU C l hl a ha _ _).mono ?_
      rintro _ _ ⟨k,rfl,hk,a,ha,rfl⟩
      have hk:=hk (by omega)
      have h3:k<h1.length:=by omega
      simp only[go_sem,Pn h3]
      exact⟨⟨_,rfl,.mk _ _ _ _ (by simp) (by simp)⟩,a,ha,rfl⟩
     .simp only[go_sem,z',z2]
      refine h2 a ha _ ?_
      intro k a ha
      simp only[go_sem]
      exact⟨⟨_,rfl,.mk _ _ _ _ (by simp) (by simp)⟩,a,ha,rfl⟩
   .simp only[go_sem,Int.lt_irrefl,dz0]
    refine h2 a ha _ ?_
    intro k a ha
    simp only[go_sem]
    exact⟨⟨_,rfl,.mk _ _ _ _ (by simp) (by simp)⟩,a,ha,rfl⟩
def AoO(v:VV):Prop:=∃l:List ByteArray,l.Nodup/\(∀n∈l,n∈N4)/\v=lS l
theorem Ahv(nms:List ByteArray)(hnd:nms.Nodup)(hn4:∀n∈nms,n∈N4)(reg:ByteArray)(hreg:reg∈N4):VP V A5m [lS nms,.s reg] AoO:=by
 have hl:=Nl hnd hn4
 rw[Ad C.c_z228.1 C.c_z228.2]
 simp only[AbM,go_sem]
 refine Ab (by decide) nms.length (by omega) (I:=fun k F h=>h=[]/\A3.tmp F 0=lS nms/\A3.tmp F 1=.s reg/\∀(j:Nat) (hj:j<nms.length),j<k->¬reg=nms[j]) ?_ ?_ ?_ 0 _ _ (zero_le _) ?_ ?_
 .rintro k F h hk p5 ⟨rfl,p0,p1,p2⟩
  simp only[go_sem,p5,p0,p1]
  exact p2
 .rintro k F h hk p5 ⟨rfl,p0,p1,p2⟩
  by_cases e:nms[k]=reg
  .simp only[go_sem,p5,p0,p1,Pn hk,e]
   exact⟨nms,hnd,hn4,rfl⟩
  .simp only[go_sem,p5,p0,p1,Pn hk,e]
   intro j hj h1
   by_cases e2:j=k
   .subst e2;exact fun h=>e h.symm
   .exact p2 j hj (by omega)
 .rintro F h ⟨rfl,p0,p1,p2⟩
  have h0:reg∉nms:=fun h=>by
   obtain⟨j,hj,e⟩:=List.mem_iff_getElem.1 h
   exact p2 j hj hj e.symm
  have b0:nms.length * 16<=A6:=by unfold A6;omega
  have b1:(nms.length+1) * 16<=A6:=by unfold A6;omega
  simp only[go_sem,p0,p1,b0,b1]
  refine⟨nms++[reg],List.nodup_append.2 ⟨hnd,by simp,by intro a ha b hb;simp at hb;subst hb;intro e;subst e;exact h0 ha⟩,fun n hn=>?_,?_⟩
  .rcases List.mem_append.1 hn with h|h
   .exact hn4 n h
   .rw[List.mem_singleton.1 h];exact hreg
  .rfl
 .simp only[go_sem]
 .simp only[go_sem]
  intro j hj h1;omega
omit C in
theorem KR.frz{g:VV}(h:KR g):∃nms:List ByteArray,nms.Nodup/\(∀n∈nms,n∈N4)/\(∀(hh:VH) (d:Nat),frz hh (d+1) g=some (lS nms,[]))/\(∀L,Mi L g=g)/\∀L,bel L g=true:=by
 obtain⟨l,h1,h2,rfl|⟨rfl,rfl⟩⟩:=h
 .exact⟨l,h1,h2,fun _ _=>rfl,fun _=>rfl,fun _=>rfl⟩
 .exact⟨[],h1,h2,fun _ _=>rfl,fun _=>rfl,fun _=>rfl⟩
omit C in
theorem KR.nil:KR .nl:=⟨[],by simp,by simp,.inr ⟨rfl,rfl⟩⟩
omit C in
theorem AaQ{k:Nat}(hk:k<4):Sm k∈N4/\(Sm k).size<=1000/\decide (Sm k=bs [])=false:=by
 rcases(show k=0\/k=1\/k=2\/k=3 by omega)with rfl|rfl|rfl|rfl<;>exact⟨by simp[N4,Sm,bs],by decide,by decide⟩
def Hx(nl:Nat):List ByteArray:=(List.range nl).map Ua
omit C in
theorem AaO{k nl:Nat}(hk:k<nl):Ua k∈Hx nl:=List.mem_map.2 ⟨k,List.mem_range.2 hk,rfl⟩
omit C in
theorem oks{L:List ByteArray}{kind mode:Int}{reg loc:ByteArray}{n:Nat}(hk:1<=kind/\kind<=7)(hr:GZ kind=true->reg∈N4)(hn:1<=n\/kind=2\/kind=6)(h2:kind=5->2<=n)(hl:kind=2\/kind=3\/kind=4\/kind=5->loc∈L)
  (m2:kind=2->mode=0\/mode=1\/mode=4) (m3:kind=3->mode=0\/mode=2\/mode=4) (ma:kind=4\/kind=5->0<=mode/\mode<=4) (mf:kind=6->1<=mode/\mode<=4) (hs:reg.size<=1000):OKS L kind mode reg loc n:=
 ⟨hk,hr,fun h=>by omega,h2,hl,m2,m3,ma,mf,hs⟩
omit C in
theorem KO{α:Type}{f:α->Option (α×List Nat)}:∀{l:List α},(∀x∈l,f x=some (x,[]))->B5 f l=some (l,[])
 | [],_=>rfl
 |x::xs,h=>by
  rw[B5,h x mem_cons_self,KO fun y hy=>h y (mem_cons_of_mem _ hy)];rfl
omit C in
theorem Ahn{L:List ByteArray}{rows:List (List VV)}(h:∀s∈rows,GS L s)(hh:VH)(d:Nat):B5 (fun row=>B5 (frz hh (d+1)) row) rows=some (rows,[]):=KO fun s hs=>(h s hs).frz
omit C in
theorem GS.bel{L:List ByteArray}{s:List VV}(h:GS L s)(n:Nat):CK n s=true:=by cases h;rfl
def SI(x0:Option VO)(l:List U8)(L:List ByteArray)(r:VH)(k:Nat)(v12:VV)(h:VH):Prop:=∃(a:Nat) (rows:List (List VV)),a<=l.length/\rows.length<=k/\(∀s∈rows,GS L s)/\v12=.sl (r.length+1+1) rows.length 0 rows.length/\h=x0::MO l a::(r++[some (AN Lu 7 rows)])
omit C in
theorem SI.fin{x0:Option VO}{l:List U8}{L:List ByteArray}{r:VH}{k a:Nat}{rows:List (List VV)}{row:List VV}(ha:a<=l.length)(hrl:rows.length<=k)(hrs:∀s∈rows,GS L s)(hg:GS L row) :
  (∀n,(rows++[row]).all (CK n)=true)/\SI x0 l L r (k+1) (.sl (r.length+1+1) (rows.length+1) 0 (rows.length+1)) (x0::MO l a::(r++[some (AN Lu 7 (rows++[row]))])):=by
 have h0:∀s∈rows++[row],GS L s:=fun s hs=>by
  rcases List.mem_append.1 hs with h|h
  .exact hrs s h
  .rw[List.mem_singleton.1 h];exact hg
 exact⟨fun n=>by rw[List.all_eq_true];exact fun s hs=>(h0 s hs).bel n,a,rows++[row],ha,by simp;omega,h0,by simp,rfl⟩
def Ajf(L:List ByteArray)(n:Nat)(v:VV):Prop:=∃(rows:List (List VV)) (g:VV),v=.tu [.ls rows,g]/\rows.length<=n/\(∀s∈rows,GS L s)/\AoO g
theorem Ke(l:List U8)(hl:l.length<=1000/\∀x∈l,x.n<256)(vals:Int)(hv:1<=vals/\vals<=4)(nl:Nat)(hnl:1<=nl/\nl<=4)(d:Nat)(hd:d<=10)(ih:0<d->∀(a:Nat) (ha:a<=l.length) (rg:VV) (hrg:KR rg) (r:VH) {x0:Option VO},
      J7 V Rj [.p 1 0 0 0,vHp vals nl,.i .i64 1,.i .i64 ((d-1:Nat):Int),rg] (x0::MO l a::r) fun v h=>Ajf (Hx nl) 1 v/\MS x0 l r h)
    (n:Nat) (hn:n<=10) (a:Nat) (ha:a<=l.length) (rg:VV) (hrg:KR rg) (r:VH) {x0:Option VO} :
    J7 V Rj [.p 1 0 0 0,vHp vals nl,.i .i64 n,.i .i64 d,rg] (x0::MO l a::r) fun v h=>Ajf (Hx nl) n v/\MS x0 l r h:=by
  rw[DG C.h_z198]
  simp only[AbG,go_sem]
  refine Ab (by decide) n (by omega) (I:=fun k F h=>SI x0 l (Hx nl) r k (A3.tmp F 12) h/\A3.tmp F 0=.p 1 0 0 0/\A3.tmp F 2=.i .i64 n/\A3.tmp F 3=.i .i64 d/\KR (A3.tmp F 4)/\A3.tmp F 6=fHp vals nl) ?_ ?_ ?_ 0 _ _ (zero_le _) ?_ ?_
  · rintro k F h hk h3 ⟨q0, p0, p2, p3, h4, p6⟩
    simp only[go_sem,h3,p0,p2,p3,p6]
    exact⟨q0,h4⟩
  · rintro k F h hk h3 ⟨⟨a, rows, ha, hc, h9, h2, rfl⟩, p0, p2, p3, h4, p6⟩
    obtain⟨hy,hw,hu,h5,h6,h0⟩:=h4.frz
    have b1:(rows.length+1) * 120<=A6:=by unfold A6;omega
    simp only[A6L,go_sem,p0,p3,p6,h2,h3]
    refine(AU C l hl a ha _ _).mono ?_
    rintro _ _ ⟨hp,rfl,q3,a,ha,rfl⟩
    try simp only[go_sem,p0,p3,p6,h2,h3]
    refine(AU C l hl a ha _ _).mono ?_
    rintro _ _ ⟨hi,rfl,hf,a,ha,rfl⟩
    have hf:hi<4:=by have:=hf (by omega);omega
    obtain⟨ho,hr,h1⟩:=AaQ hf
    try simp only[go_sem,p0,p3,p6,h2,h3,AlE C hi hf]
    refine(AU C l hl a ha _ _).mono ?_
    rintro _ _ ⟨hj,rfl,hh,a,ha,rfl⟩
    have hh:hj<nl:=by have:=hh (by omega);omega
    have hq:=AaO hh
    obtain⟨_,⟨hg,w1,w2,rfl⟩,qw⟩:=DJ (Ahv C hy hw hu (Sm hi) ho)
    try simp only[go_sem,p0,p2,p3,p6,h2,h3,HB C hj (by omega)]
    by_cases c4:(hp:Int)<4
    · try simp only [go_sem, p0, p2, p3, p6, h2, h3, h5, h6, h0, h1, b1, qw, A0, He, Hf, c4]
      refine(Mx C l hl a ha vals nl [0,1,4] (by simp) _).mono ?_
      rintro _ _ ⟨⟨m,rfl,hm⟩,a,ha,rfl⟩
      simp only[mem_cons,not_mem_nil,or_false]at hm
      try simp only[go_sem,p0,p2,p3,p6,h2,h3,h5,h6,h0,h1,b1,qw,A0,He,Hf]
      have h8:GS (Hx nl) (rS 2 m (Sm hi) (Ua hj) [] [] []):=.mk _ _ _ _ _ _ _ (by simp) (by simp) (by simp) (by simp) (by simp) (by simp) (oks (by omega) (fun _=>ho) (by omega) (by omega) (fun _=>hq) (fun _=>hm) (by omega) (by omega) (by omega) hr)
      have h7:=SI.fin (x0:=x0) (r:=r) ha hc h9 h8
      exact⟨.inr (h7.1 _),h7.2,⟨hg,w1,w2,.inl rfl⟩⟩
    by_cases c8:(hp:Int)<8
    · try simp only [go_sem, p0, p2, p3, p6, h2, h3, h5, h6, h0, h1, b1, qw, A0, He, Hf, c4, c8]
      refine(Mx C l hl a ha vals nl [0,2,4] (by simp) _).mono ?_
      rintro _ _ ⟨⟨m,rfl,hm⟩,a,ha,rfl⟩
      simp only[mem_cons,not_mem_nil,or_false]at hm
      try simp only[go_sem,p0,p2,p3,p6,h2,h3,h5,h6,h0,h1,b1,qw,A0,He,Hf]
      refine(KS C l hl vals hv 1 (by omega) a ha _ h4 _).mono ?_
      rintro _ _ ⟨⟨r1,rfl,g1⟩,a,ha,rfl⟩
      have hb:=g1
      cases g1 with
      |mk o1 n1 m1 ks1 q1 z1=>
      try simp only[go_sem,p0,p2,p3,p6,h2,h3,h5,h6,h0,h1,b1,qw,A0,He,Hf]
      have h8:GS (Hx nl) (rS 3 m (bs []) (Ua hj) [[.i .i64 o1,.i .i64 n1,.s m1,.ls ks1]] [] []):=.mk _ _ _ _ _ _ _ (by simp) (by intro x hx;rw[List.mem_singleton.1 hx];exact hb) (by simp) (by simp) (by simp) (by simp) (oks (by omega) (fun h=>by simp[GZ]at h) (.inl (by simp)) (by omega) (fun _=>hq) (by omega) (fun _=>hm) (by omega) (by omega) (by decide))
      have h7:=SI.fin (x0:=x0) (r:=r) ha hc h9 h8
      exact⟨.inr (h7.1 _),h7.2,h4⟩
    by_cases e8:(hp:Int)=8
    · try simp only [go_sem, p0, p2, p3, p6, h2, h3, h5, h6, h0, h1, b1, qw, A0, He, Hf, c4, c8, e8]
      refine(Mx C l hl a ha vals nl [0,1,2,3,4] (by simp) _).mono ?_
      rintro _ _ ⟨⟨m,rfl,hm⟩,a,ha,rfl⟩
      simp only[mem_cons,not_mem_nil,or_false]at hm
      try simp only[go_sem,p0,p2,p3,p6,h2,h3,h5,h6,h0,h1,b1,qw,A0,He,Hf]
      refine(KS C l hl vals hv 1 (by omega) a ha _ h4 _).mono ?_
      rintro _ _ ⟨⟨r1,rfl,g1⟩,a,ha,rfl⟩
      have hb:=g1
      cases g1 with
      |mk o1 n1 m1 ks1 q1 z1=>
      try simp only[go_sem,p0,p2,p3,p6,h2,h3,h5,h6,h0,h1,b1,qw,A0,He,Hf]
      have h8:GS (Hx nl) (rS 4 m (Sm hi) (Ua hj) [[.i .i64 o1,.i .i64 n1,.s m1,.ls ks1]] [] []):=.mk _ _ _ _ _ _ _ (by simp) (by intro x hx;rw[List.mem_singleton.1 hx];exact hb) (by simp) (by simp) (by simp) (by simp) (oks (by omega) (fun _=>ho) (.inl (by simp)) (by omega) (fun _=>hq) (by omega) (by omega) (fun _=>by omega) (by omega) hr)
      have h7:=SI.fin (x0:=x0) (r:=r) ha hc h9 h8
      exact⟨.inr (h7.1 _),h7.2,⟨hg,w1,w2,.inl rfl⟩⟩
    by_cases e9:(hp:Int)=9
    · by_cases cd : (0 : Int) < d
      · have wd : IntKind.i64.wrap (((d : Nat) : Int) - 1) = ((d - 1 : Nat) : Int) := by rw [Ax (by omega) (by omega)]; omega
        try simp only[go_sem,p0,p2,p3,p6,h2,h3,h5,h6,h0,h1,b1,qw,A0,He,Hf,c4,c8,e8,e9,cd]
        refine(KS C l hl vals hv 1 (by omega) a ha _ h4 _).mono ?_
        rintro _ _ ⟨⟨r1,rfl,g1⟩,a,ha,rfl⟩
        have hb:=g1
        cases g1 with
        |mk o1 n1 m1 ks1 q1 z1=>
        try simp only[go_sem,p0,p2,p3,p6,h2,h3,h5,h6,h0,h1,b1,qw,A0,He,Hf,wd]
        refine(ih (by omega) a ha _ h4 _).mono ?_
        rintro _ _ ⟨⟨rt,gt,rfl,lt,ht,gk⟩,a,ha,rfl⟩
        obtain⟨q7,_,_,rfl⟩:=gk
        try simp only[go_sem,p0,p2,p3,p6,h2,h3,h5,h6,h0,h1,b1,qw,A0,He,Hf,wd]
        refine(AU C l hl a ha _ _).mono ?_
        rintro _ _ ⟨kp,rfl,q5,a,ha,rfl⟩
        by_cases ep:(kp:Int)=1
        · try simp only [go_sem, p0, p2, p3, p6, h2, h3, h5, h6, h0, h1, b1, qw, A0, He, Hf, wd, ep]
          refine(ih (by omega) a ha _ h4 _).mono ?_
          rintro _ _ ⟨⟨re,ge,rfl,le,he,gk⟩,a,ha,rfl⟩
          obtain⟨q6,_,_,rfl⟩:=gk
          try simp only[go_sem,p0,p2,p3,p6,h2,h3,h5,h6,h0,h1,b1,qw,A0,He,Hf,wd]
          have h8:GS (Hx nl) (rS 7 0 (bs []) (bs []) [[.i .i64 o1,.i .i64 n1,.s m1,.ls ks1]] rt re):=.mk _ _ _ _ _ _ _ (by simp) (by intro x hx;rw[List.mem_singleton.1 hx];exact hb) (by omega) (by omega) (ht) (he) (oks (by omega) (fun h=>by simp[GZ]at h) (.inl (by simp)) (by omega) (by omega) (by omega) (by omega) (by omega) (by omega) (by decide))
          have h7:=SI.fin (x0:=x0) (r:=r) ha hc h9 h8
          exact⟨.inr (h7.1 _),h7.2,h4⟩
        · try simp only [go_sem, p0, p2, p3, p6, h2, h3, h5, h6, h0, h1, b1, qw, A0, He, Hf, wd, ep]
          have h8:GS (Hx nl) (rS 7 0 (bs []) (bs []) [[.i .i64 o1,.i .i64 n1,.s m1,.ls ks1]] rt []):=.mk _ _ _ _ _ _ _ (by simp) (by intro x hx;rw[List.mem_singleton.1 hx];exact hb) (by omega) (by simp) (ht) (by simp) (oks (by omega) (fun h=>by simp[GZ]at h) (.inl (by simp)) (by omega) (by omega) (by omega) (by omega) (by omega) (by omega) (by decide))
          have h7:=SI.fin (x0:=x0) (r:=r) ha hc h9 h8
          exact⟨.inr (h7.1 _),h7.2,h4⟩
      · try simp only [go_sem, p0, p2, p3, p6, h2, h3, h5, h6, h0, h1, b1, qw, A0, He, Hf, c4, c8, e8, e9, cd]
        refine(Mx C l hl a ha vals nl [0,1,2,3,4] (by simp) _).mono ?_
        rintro _ _ ⟨⟨m,rfl,hm⟩,a,ha,rfl⟩
        simp only[mem_cons,not_mem_nil,or_false]at hm
        try simp only[go_sem,p0,p2,p3,p6,h2,h3,h5,h6,h0,h1,b1,qw,A0,He,Hf]
        refine(KS C l hl vals hv 0 (by omega) a ha _ h4 _).mono ?_
        rintro _ _ ⟨⟨r1,rfl,g1⟩,a,ha,rfl⟩
        have hb:=g1
        cases g1 with
        |mk o1 n1 m1 ks1 q1 z1=>
        try simp only[go_sem,p0,p2,p3,p6,h2,h3,h5,h6,h0,h1,b1,qw,A0,He,Hf]
        refine(KS C l hl vals hv 0 (by omega) a ha _ h4 _).mono ?_
        rintro _ _ ⟨⟨r2,rfl,g2⟩,a,ha,rfl⟩
        have hz:=g2
        cases g2 with
        |mk o2 n2 m2 ks2 q2 z2=>
        try simp only[go_sem,p0,p2,p3,p6,h2,h3,h5,h6,h0,h1,b1,qw,A0,He,Hf]
        have h8:GS (Hx nl) (rS 5 m (Sm hi) (Ua hj) [[.i .i64 o1,.i .i64 n1,.s m1,.ls ks1],[.i .i64 o2,.i .i64 n2,.s m2,.ls ks2]] [] []):=.mk _ _ _ _ _ _ _ (by simp) (by intro x hx;rcases List.mem_cons.1 hx with rfl|hx;exact hb;rw[List.mem_singleton.1 hx];exact hz) (by simp) (by simp) (by simp) (by simp) (oks (by omega) (fun _=>ho) (.inl (by simp)) (fun _=>by simp) (fun _=>hq) (by omega) (by omega) (fun _=>by omega) (by omega) hr)
        have h7:=SI.fin (x0:=x0) (r:=r) ha hc h9 h8
        exact⟨.inr (h7.1 _),h7.2,⟨hg,w1,w2,.inl rfl⟩⟩
    by_cases e10:(hp:Int)=10
    · try simp only [go_sem, p0, p2, p3, p6, h2, h3, h5, h6, h0, h1, b1, qw, A0, He, Hf, c4, c8, e8, e9, e10]
      refine(Mx C l hl a ha vals nl [1,2,3,4] (by simp) _).mono ?_
      rintro _ _ ⟨⟨m,rfl,hm⟩,a,ha,rfl⟩
      simp only[mem_cons,not_mem_nil,or_false]at hm
      try simp only[go_sem,p0,p2,p3,p6,h2,h3,h5,h6,h0,h1,b1,qw,A0,He,Hf]
      have h8:GS (Hx nl) (rS 6 m (bs []) (bs []) [] [] []):=.mk _ _ _ _ _ _ _ (by simp) (by simp) (by simp) (by simp) (by simp) (by simp) (oks (by omega) (fun h=>by simp[GZ]at h) (by omega) (by omega) (by omega) (by omega) (by omega) (by omega) (fun _=>by omega) (by decide))
      have h7:=SI.fin (x0:=x0) (r:=r) ha hc h9 h8
      exact⟨.inr (h7.1 _),h7.2,h4⟩
    · try simp only [go_sem, p0, p2, p3, p6, h2, h3, h5, h6, h0, h1, b1, qw, A0, He, Hf, c4, c8, e8, e9, e10]
      refine(KS C l hl vals hv 2 (by omega) a ha _ h4 _).mono ?_
      rintro _ _ ⟨⟨r1,rfl,g1⟩,a,ha,rfl⟩
      have hb:=g1
      cases g1 with
      |mk o1 n1 m1 ks1 q1 z1=>
      try simp only[go_sem,p0,p2,p3,p6,h2,h3,h5,h6,h0,h1,b1,qw,A0,He,Hf]
      have h8:GS (Hx nl) (rS 1 0 (Sm hi) (bs []) [[.i .i64 o1,.i .i64 n1,.s m1,.ls ks1]] [] []):=.mk _ _ _ _ _ _ _ (by simp) (by intro x hx;rw[List.mem_singleton.1 hx];exact hb) (by simp) (by simp) (by simp) (by simp) (oks (by omega) (fun _=>ho) (.inl (by simp)) (by omega) (by omega) (by omega) (by omega) (by omega) (by omega) hr)
      have h7:=SI.fin (x0:=x0) (r:=r) ha hc h9 h8
      exact⟨.inr (h7.1 _),h7.2,⟨hg,w1,w2,.inl rfl⟩⟩
  · rintro F h ⟨⟨a, rows, ha, hc, h9, h2, rfl⟩, p0, p2, p3, h4, p6⟩
    obtain⟨hy,hw,hu,h5,h6,h0⟩:=h4.frz
    have q4:=Ahn h9
    simp only[go_sem,h2,h5,q4]
    exact⟨⟨rows,_,rfl,hc,h9,hy,hw,hu,rfl⟩,a,ha,rfl⟩
  · simp only[go_sem]
  · simp only [go_sem]
    exact⟨⟨a,[],ha,by simp,by simp,rfl,rfl⟩,hrg⟩
theorem Adk(l:List U8)(hl:l.length<=1000/\∀x∈l,x.n<256)(vals:Int)(hv:1<=vals/\vals<=4)(nl:Nat)(hnl:1<=nl/\nl<=4)(d:Nat):d<=10->∀(n:Nat) (hn:n<=10) (a:Nat) (ha:a<=l.length) (rg:VV) (hrg:KR rg) (r:VH) {x0:Option VO},
  J7 V Rj [.p 1 0 0 0,vHp vals nl,.i .i64 n,.i .i64 d,rg] (x0::MO l a::r) fun v h=>Ajf (Hx nl) n v/\MS x0 l r h:=by
 induction d with
 |zero=>exact fun _ n hn a ha rg hrg r=>Ke C l hl vals hv nl hnl 0 (by omega) (fun h=>absurd h (by omega)) n hn a ha rg hrg r
 |succ d ih=>exact fun _ n hn a ha rg hrg r=>Ke C l hl vals hv nl hnl (d+1) (by omega) (fun _ a ha rg hrg r=>ih (by omega) 1 (by omega) a ha rg hrg r) n hn a ha rg hrg r
end
end Go.AM
