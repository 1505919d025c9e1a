/-
  Own work, part of the proof of these laws: what functions compute.
-/
import Derived.Test.YtpnaenhghnkggaaGreatDoorKE
set_option maxRecDepth 10000
set_option maxHeartbeats 64000000
set_option linter.unusedVariables false
set_option linter.unusedSimpArgs false
set_option linter.unusedSectionVars false
set_option linter.unnecessarySimpa false
open Int (toNat_natCast)
open List (length_map all_eq_true map_append getElem?_map)
open Nat (zero_le)
open BitVec (toNat_ofNat)
namespace Go.AM
open Go Go.Proofs
theorem Adg{args:List VV}(y x:Option VO)(r:VH)(j:Nat)(h0:(RO args).contains 1=true)(h1:(RO args).contains (j+1+1)=true):∃y' r',Bw (Kd args (y::x::r)) (y::x::r)=y'::x::r'/\r'[j]? = r[j]?:=by
 obtain⟨⟨y',r'⟩,h2⟩:=EK y x r h0
 refine⟨y',r',h2,?_⟩
 have:=A7I (y::x::r) (j+1+1) h1
 rw[h2]at this
 simpa using this
def Akj(v:VV):Prop:=∃row,v=.ag row/\GC row
section
variable {V:Ai}(C:Am V){Q:VV->Prop}
include C
theorem Lm(l:List U8)(hl:l.length<=1000/\∀x∈l,x.n<256)(vals:Int)(hv:1<=vals/\vals<=4)(nl:Nat)(hnl:1<=nl/\nl<=4)(rg:List (List ByteArray))(hrg:1<=rg.length/\rg.length<=4)(d:Nat)(hd:d<=10)
  (ih:0<d->∀(a:Nat) (ha:a<=l.length) (j:Nat) (r:VH) (hR:r[j]? = some (some (AN BU 1 (rg.map J8)))) {x0:Option VO},
   J7 V LR [.p 1 0 0 0,vHp vals nl,.sl (j+1+1) rg.length 0 rg.length,.i .i64 ((d-1:Nat):Int)] (x0::MO l a::r) fun v h=>Akj v/\MS x0 l r h)
  (a:Nat) (ha:a<=l.length) (j:Nat) (r:VH) (hR0:r[j]? = some (some (AN BU 1 (rg.map J8)))) {x0:Option VO} :
  J7 V LR [.p 1 0 0 0,vHp vals nl,.sl (j+1+1) rg.length 0 rg.length,.i .i64 d] (x0::MO l a::r) fun v h=>Akj v/\MS x0 l r h:=by
 have h6:j<r.length:=(List.getElem?_eq_some_iff.1 hR0).1
 have hR:∀x,(r++x)[j]? = some (some (AN BU 1 (rg.map J8))):=fun x=>by rw[List.getElem?_append_left h6];exact hR0
 have h4:(List.length r+1==j)=false:=by rw[beq_eq_false_iff_ne];omega
 have h2:=Gp (ty:=BU) (e:=1) (rows:=rg.map J8) (by rw[length_map];omega)
 rw[DG C.h_z199]
 simp only[A3I,go_sem]
 refine(AU C l hl a ha _ _).mono ?_
 rintro _ _ ⟨k,rfl,hk,a,ha,rfl⟩
 by_cases c0:(0:Int)<d
 .by_cases c3:(3:Int)<k
  .have wd:IntKind.i64.wrap (((d:Nat):Int)-1)=((d-1:Nat):Int):=by rw[Ax (by omega) (by omega)];omega
   by_cases c4:(k:Int)=4
   .simp only[go_sem,c0,c3,c4,wd]
    refine(ih (by omega) a ha j _ (hR _)).mono ?_
    rintro _ _ ⟨⟨row,rfl,g1⟩,a,ha,rfl⟩
    have h3:=g1
    cases g1 with
    |mk o1 t1 m1 n1 ks1 q1 z1=>
    try simp only[go_sem,wd,h4]
    exact⟨⟨_,rfl,.mk _ _ _ _ _ (by simp) (by intro x hx;rw[List.mem_singleton.1 hx];exact h3)⟩,a,ha,rfl⟩
   .simp only[go_sem,c0,c3,c4,wd]
    refine(AU C l hl a ha _ _).mono ?_
    rintro _ _ ⟨k2,rfl,h9,a,ha,rfl⟩
    try simp only[go_sem,c0,c3,c4,wd]
    refine(ih (by omega) a ha j _ (hR _)).mono ?_
    rintro _ _ ⟨⟨row,rfl,g1⟩,a,ha,rfl⟩
    have h3:=g1
    cases g1 with
    |mk o1 t1 m1 n1 ks1 q1 z1=>
    try simp only[go_sem,wd,h4]
    refine⟨?_,?_⟩
    .obtain⟨y0,r',h7,h8⟩:=Adg (args:=[.p 1 0 0 0,vHp vals nl,.sl (j+1+1) rg.length 0 rg.length,.i .i64 ((d-1:Nat):Int)]) x0 (MO l a) (r++[some { ty:=Qa,esz:=0,ver:=0,nl:=false,rows:=[[.i .i64 0,.i .i64 0,.s (bs []),.i .i64 0,.nl]] },some { ty:=Qa,esz:=0,ver:=0,nl:=false,rows:=[[.i .i64 o1,.i .i64 t1,.s m1,.i .i64 n1,.ls ks1]] }]) j rfl (by simp[RO])
     rw[h7]
     exact(ih (by omega) a ha j _ (h8.trans (hR _))).to2
    refine(ih (by omega) a ha j _ (hR _)).mono ?_
    rintro _ _ ⟨⟨row,rfl,g2⟩,a,ha,rfl⟩
    have h5:=g2
    cases g2 with
    |mk o2 t2 m2 n2 ks2 q2 z2=>
    try simp only[go_sem,wd,h4]
    exact⟨⟨_,rfl,.mk _ _ _ _ _ (by simp) (by intro x hx;rcases List.mem_cons.1 hx with rfl|hx;exact h3;rw[List.mem_singleton.1 hx];exact h5)⟩,a,ha,rfl⟩
  .simp only[go_sem,c0,c3]
   refine(AU C l hl a ha _ _).mono ?_
   rintro _ _ ⟨t,rfl,ht,a,ha,rfl⟩
   have ht:t<rg.length:=by have:=ht (by omega);omega
   have h0:=K4 ht
   have h1:(t:Int)<rg.length:=by omega
   by_cases k0:(0:Int)<k
   .by_cases z:(0:Int)<(rg.getD t []).length
    .try simp only[go_sem,k0,hR,h0,EU,h2,h1,z,length_map,getElem?_map]
     refine⟨by rw[(EK x0 (MO l a) _ rfl).choose_spec];exact(AU C l hl a ha _ _).to2,?_⟩
     refine(AU C l hl a ha _ _).mono ?_
     rintro _ _ ⟨q,rfl,hq,a,ha,rfl⟩
     have hq:q<(rg.getD t []).length:=by have:=hq (by omega);omega
     try simp only[go_sem,k0,hR,h0,EU,h2,h1,z,length_map,getElem?_map,Pn hq]
     refine⟨by rw[(EK x0 (MO l a) _ rfl).choose_spec];exact(AU C l hl a ha _ _).to2,?_⟩
     refine(AU C l hl a ha _ _).mono ?_
     rintro _ _ ⟨n,rfl,hn,a,ha,rfl⟩
     try simp only[go_sem,k0,hR,h0,EU,h2,h1,z,length_map,getElem?_map,Pn hq]
     exact⟨⟨_,rfl,.mk _ _ _ _ _ (by simp) (by simp)⟩,a,ha,rfl⟩
    .try simp only[go_sem,k0,hR,h0,EU,h2,h1,z,length_map,getElem?_map]
     refine(AU C l hl a ha _ _).mono ?_
     rintro _ _ ⟨i,rfl,hi,a,ha,rfl⟩
     have hi:i<4:=by have:=hi (by omega);omega
     try simp only[go_sem,HB C i hi]
     refine(AU C l hl a ha _ _).mono ?_
     rintro _ _ ⟨n,rfl,hn,a,ha,rfl⟩
     try simp only[go_sem,HB C i hi]
     exact⟨⟨_,rfl,.mk _ _ _ _ _ (by simp) (by simp)⟩,a,ha,rfl⟩
   .try simp only[go_sem,k0]
    refine(AU C l hl a ha _ _).mono ?_
    rintro _ _ ⟨i,rfl,hi,a,ha,rfl⟩
    have hi:i<4:=by have:=hi (by omega);omega
    try simp only[go_sem,HB C i hi]
    refine(AU C l hl a ha _ _).mono ?_
    rintro _ _ ⟨n,rfl,hn,a,ha,rfl⟩
    try simp only[go_sem,HB C i hi]
    exact⟨⟨_,rfl,.mk _ _ _ _ _ (by simp) (by simp)⟩,a,ha,rfl⟩
 .simp only[go_sem,c0]
  refine(AU C l hl a ha _ _).mono ?_
  rintro _ _ ⟨t,rfl,ht,a,ha,rfl⟩
  have ht:t<rg.length:=by have:=ht (by omega);omega
  have h0:=K4 ht
  have h1:(t:Int)<rg.length:=by omega
  by_cases k0:(0:Int)<k
  .by_cases z:(0:Int)<(rg.getD t []).length
   .try simp only[go_sem,k0,hR,h0,EU,h2,h1,z,length_map,getElem?_map]
    refine⟨by rw[(EK x0 (MO l a) _ rfl).choose_spec];exact(AU C l hl a ha _ _).to2,?_⟩
    refine(AU C l hl a ha _ _).mono ?_
    rintro _ _ ⟨q,rfl,hq,a,ha,rfl⟩
    have hq:q<(rg.getD t []).length:=by have:=hq (by omega);omega
    try simp only[go_sem,k0,hR,h0,EU,h2,h1,z,length_map,getElem?_map,Pn hq]
    refine⟨by rw[(EK x0 (MO l a) _ rfl).choose_spec];exact(AU C l hl a ha _ _).to2,?_⟩
    refine(AU C l hl a ha _ _).mono ?_
    rintro _ _ ⟨n,rfl,hn,a,ha,rfl⟩
    try simp only[go_sem,k0,hR,h0,EU,h2,h1,z,length_map,getElem?_map,Pn hq]
    exact⟨⟨_,rfl,.mk _ _ _ _ _ (by simp) (by simp)⟩,a,ha,rfl⟩
   .try simp only[go_sem,k0,hR,h0,EU,h2,h1,z,length_map,getElem?_map]
    refine(AU C l hl a ha _ _).mono ?_
    rintro _ _ ⟨i,rfl,hi,a,ha,rfl⟩
    have hi:i<4:=by have:=hi (by omega);omega
    try simp only[go_sem,HB C i hi]
    refine(AU C l hl a ha _ _).mono ?_
    rintro _ _ ⟨n,rfl,hn,a,ha,rfl⟩
    try simp only[go_sem,HB C i hi]
    exact⟨⟨_,rfl,.mk _ _ _ _ _ (by simp) (by simp)⟩,a,ha,rfl⟩
  .try simp only[go_sem,k0]
   refine(AU C l hl a ha _ _).mono ?_
   rintro _ _ ⟨i,rfl,hi,a,ha,rfl⟩
   have hi:i<4:=by have:=hi (by omega);omega
   try simp only[go_sem,HB C i hi]
   refine(AU C l hl a ha _ _).mono ?_
   rintro _ _ ⟨n,rfl,hn,a,ha,rfl⟩
   try simp only[go_sem,HB C i hi]
   exact⟨⟨_,rfl,.mk _ _ _ _ _ (by simp) (by simp)⟩,a,ha,rfl⟩
theorem Ahu(l:List U8)(hl:l.length<=1000/\∀x∈l,x.n<256)(vals:Int)(hv:1<=vals/\vals<=4)(nl:Nat)(hnl:1<=nl/\nl<=4)(rg:List (List ByteArray))(hrg:1<=rg.length/\rg.length<=4)(d:Nat):d<=10->∀(a:Nat) (ha:a<=l.length) (j:Nat) (r:VH) (hR:r[j]? = some (some (AN BU 1 (rg.map J8)))) {x0:Option VO},
      J7 V LR [.p 1 0 0 0,vHp vals nl,.sl (j+1+1) rg.length 0 rg.length,.i .i64 d] (x0::MO l a::r) fun v h=>Akj v/\MS x0 l r h:=by
  induction d with
  |zero=>exact fun _=>Lm C l hl vals hv nl hnl rg hrg 0 (by omega) (fun h=>absurd h (by omega))
  |succ d ih=>exact fun _=>Lm C l hl vals hv nl hnl rg hrg (d+1) (by omega) (fun _=>ih (by omega))
end
abbrev oPz:Option VO:=some ⟨Qb,0,0,false,[[.s (bs []),.i .i64 0,.nl,.nl,.i .i64 0,.i .i64 0,.i .i64 0,.s (bs []),.i .i64 0,.nl]]⟩
abbrev oPr(n:Nat)(vals ask:Int)(vi vt:Nat):Option VO:=some ⟨Qb,0,0,false,[[.s (bs [109,97,100,101]),.i .i64 vals,.sl (n+2+1+1) vi 0 vi,.sl (n+2+1+1+1) vt 0 vt,.i .i64 ask,.i .i64 0,.i .i64 0,.s (bs []),.i .i64 0,.sl (n+2+1+1+1+1) 0 0 0]]⟩
def LI(x0:Option VO)(l:List U8)(vals ask:Int)(r:VH)(k:Nat)(h:VH):Prop:=∃(a:Nat) (ini:List (ByteArray×Int)),a<=l.length/\ini.length=k/\ini.map (·.1)=Hx k/\(∀x∈ini,0<=x.2/\x.2<vals) /\
 h=x0::MO l a::(r++[oPz,oPr r.length vals ask k 0,some (AN Q9 2 (ini.map eCl)),some DT,some DT])
def TI(x0:Option VO)(l:List U8)(L:List ByteArray)(vals ask:Int)(nl:Nat)(ini:List (ByteArray×Int))(r:VH)(k:Nat)(h:VH):Prop:=∃(a:Nat) (thr:List (List (List VV))) (rg:List (List ByteArray)),a<=l.length/\thr.length=k/\rg.length=k/\(∀l∈thr,l.length<=10/\∀s∈l,GS L s)/\(∀l∈rg,l.length<=4) /\
 h=x0::MO l a::(r++[oPz,oPr r.length vals ask nl k,some (AN Q9 2 (ini.map eCl)),some (AN Ue 1 (thr.map fun l=>[.ls l])),some DT,some (AN BU 1 (rg.map J8))])
theorem A95{nl:Nat}(x:ByteArray)(h:x∈Hx nl):x.size<=1000:=by
 obtain⟨k,_,rfl⟩:=List.mem_map.1 h
 rcases k with _|_|_|k<;>(show(1:Nat)<=1000;decide)
theorem Afb(nl:Nat)(h:nl<=4):(Hx nl).Nodup:=by
 rcases(show nl=0\/nl=1\/nl=2\/nl=3\/nl=4 by omega)with rfl|rfl|rfl|rfl|rfl<;>decide
theorem A96(k:Nat):Hx (k+1)=Hx k++[Ua k]:=by unfold Hx;rw[List.range_succ,map_append];rfl
section
variable {V:Ai}(C:Am V){Q:VV->Prop}
include C
theorem XE(l:List U8)(hl:l.length<=1000/\∀x∈l,x.n<256)(vals:Int)(hv:2<=vals/\vals<=4)(nl:Nat)(hnl:1<=nl/\nl<=4)(th most deep:Nat)(ht:1<=th/\th<=4)(hm:most<=9)(hd:deep<=9)(a:Nat)(ha:a<=l.length)(r:VH){x0:Option VO} :
  J7 V R9 [.p 1 0 0 0,vHp vals nl,.i .i64 th,.i .i64 most,.i .i64 deep] (x0::MO l a::r) fun v h=>(∃p:PP,v=p.v/\GP2 p)/\MS x0 l r h:=by
 rw[DG C.h_z148]
 simp only[A3d,go_sem]
 refine(AU C l hl a ha _ _).mono ?_
 rintro _ _ ⟨k,rfl,hk,a,ha,rfl⟩
 simp only[go_sem,AL,ZP,CJ]
 generalize IntKind.i64.wrap (1 + ↑k)=ask
 refine Ab (by decide) nl (by omega) (I:=fun k F h=>LI x0 l vals ask r k h/\A3.tmp F 0=.p 1 0 0 0/\A3.tmp F 2=.i .i64 th/\A3.tmp F 3=.i .i64 most/\A3.tmp F 4=.i .i64 deep/\A3.tmp F 6=fHp vals nl/\A3.tmp F 10=.p (r.length+1+1) 0 0 0/\A3.tmp F 11=.p (r.length+1+1+1) 0 0 0) ?_ ?_ ?_ 0 _ _ (zero_le _) ?_ ?_
 .rintro k F h hk h9 ⟨h1,p0,p2,p3,p4,p6,h0,h2⟩
  simp only[go_sem,h9,p0,p2,p3,p4,p6,h0,h2]
  exact h1
 .rintro k F h hk h9 ⟨⟨a,h3,ha,hc,h6,he,rfl⟩,p0,p2,p3,p4,p6,h0,h2⟩
  have b1:(h3.length+1) * 24<=A6:=by unfold A6;omega
  subst hc
  simp only[A6J,go_sem,h9,p0,p2,p3,p4,p6,h0,h2,HB C h3.length (by omega),ZP,CJ,A0]
  refine(AU C l hl a ha _ _).mono ?_
  rintro _ _ ⟨k1,rfl,h7,a,ha,rfl⟩
  try simp only[go_sem,h9,p0,p2,p3,p4,p6,h0,h2,ZP,CJ]
  refine(AU C l hl a ha _ _).mono ?_
  rintro _ _ ⟨k2,rfl,ho,a,ha,rfl⟩
  have h7:=h7 (by omega)
  have w1:IntKind.i64.wrap (1+(k2:Int))=1+(k2:Int):=Ax (by omega) (by have:=ho (by omega);omega)
  have hr:((k1:Int)).tmod (1+(k2:Int))=((k1 % (1+k2):Nat):Int):=by rw[Int.tmod_eq_emod_of_nonneg (by omega),Int.natCast_emod,Int.natCast_add];rfl
  have hu:=Nat.mod_le k1 (1+k2)
  try simp only[go_sem,h9,p0,p2,p3,p4,p6,h0,h2,ZP,CJ,w1,H8 (show 1+(k2:Int)≠0 by omega),hr,b1]
  refine⟨.inr ?_,⟨a,h3++[(Ua h3.length,((k1 % (1+k2):Nat):Int))],ha,by simp,by rw[map_append,h6,A96];rfl,?_,?_⟩,?_⟩
  .rw[all_eq_true]
   intro x hx
   rcases List.mem_append.1 hx with hx|hx
   .obtain⟨y,_,rfl⟩:=List.mem_map.1 hx;rfl
   .rw[List.mem_singleton.1 hx];rfl
  .intro x hx
   rcases List.mem_append.1 hx with hx|hx
   .exact he x hx
   .rw[List.mem_singleton.1 hx];exact⟨by show(0:Int)<=_;omega,by show _<vals;omega⟩
  .rw[<- Jb,map_append];rfl
  .rw[show decide (List.length r+1+1<List.length r+5+1+1)=true by rw[decide_eq_true_iff];omega];rfl
 .rintro F h ⟨⟨a,h3,ha,hc,h6,he,rfl⟩,p0,p2,p3,p4,p6,h0,h2⟩
  simp only[go_sem,p0,p2,p3,p4,p6,h0,h2]
  refine Ab (by decide) th (by omega) (I:=fun k F h=>TI x0 l (Hx nl) vals ask nl h3 r k h/\A3.tmp F 0=.p 1 0 0 0/\A3.tmp F 2=.i .i64 th/\A3.tmp F 3=.i .i64 most/\A3.tmp F 4=.i .i64 deep/\A3.tmp F 6=fHp vals nl/\A3.tmp F 10=.p (r.length+1+1) 0 0 0/\A3.tmp F 11=.p (r.length+1+1+1) 0 0 0/\A3.tmp F 13=.sl (r.length+5+1+1) k 0 k) ?_ ?_ ?_ 0 _ _ (zero_le _) ?_ ?_
  .rintro k F h hk hb ⟨h1,p0,p2,p3,p4,p6,h0,h2,h5⟩
   simp only[go_sem,hb,p0,p2,p3,p4,p6,h0,h2,h5]
   exact h1
  .rintro k F h hk hb ⟨⟨a,h4,rg,ha,hg,h8,hf,hi,rfl⟩,p0,p2,p3,p4,p6,h0,h2,h5⟩
   have b1:(h4.length+1) * 24<=A6:=by unfold A6;omega
   have b2:(rg.length+1) * 24<=A6:=by unfold A6;omega
   have w1:=Hb (show most<9223372036854775807 by omega)
   subst hg
   simp only[A6N,go_sem,hb,p0,p2,p3,p4,p6,h0,h2,h5,w1,ZP,CJ,A0]
   refine(AU C l hl a ha _ _).mono ?_
   rintro _ _ ⟨k1,rfl,h7,a,ha,rfl⟩
   have h7:k1<most+1:=by have:=h7 (by omega);omega
   try simp only[go_sem,hb,p0,p2,p3,p4,p6,h0,h2,h5,ZP,CJ]
   refine(Adk C l hl vals (by omega) nl hnl deep (by omega) k1 (by omega) a ha _ KR.nil _).mono ?_
   rintro _ _ ⟨⟨rows,g,rfl,hw,hn,nm,hp,hq,rfl⟩,a,ha,rfl⟩
   try simp only[go_sem,hb,p0,p2,p3,p4,p6,h0,h2,h5,ZP,CJ,b1,b2,h8]
   have d1:decide (List.length r+1+1<List.length r+6+1+1)=true:=by rw[decide_eq_true_iff];omega
   have d2:decide (List.length r+1+1+1<List.length r+6+1+1)=true:=by rw[decide_eq_true_iff];omega
   have d3:decide (List.length r+5+1+1<List.length r+6+1+1)=true:=by rw[decide_eq_true_iff];omega
   refine⟨.inr ?_,.inr ?_,⟨a,h4++[rows],rg++[nm],ha,by simp,by simp[h8],?_,?_,?_⟩,?_⟩
   .rw[all_eq_true]
    intro x hx
    rcases List.mem_append.1 hx with hx|hx
    .obtain⟨y,_,rfl⟩:=List.mem_map.1 hx;rfl
    .rw[List.mem_singleton.1 hx];rfl
   .rw[all_eq_true]
    intro x hx
    rcases List.mem_append.1 hx with hx|hx
    .obtain⟨y,_,rfl⟩:=List.mem_map.1 hx;rfl
    .rw[List.mem_singleton.1 hx];rfl
   .intro x hx
    rcases List.mem_append.1 hx with hx|hx
    .exact hf x hx
    .rw[List.mem_singleton.1 hx];exact⟨by omega,hn⟩
   .intro x hx
    rcases List.mem_append.1 hx with hx|hx
    .exact hi x hx
    .rw[List.mem_singleton.1 hx];exact Nl hp hq
   .rw[<- Jb,<- Jb,map_append,map_append,h8];rfl
   .simp only[d1,d2,d3,go_sem,Mi,bel]
  .rintro F h ⟨⟨a,h4,rg,ha,hg,h8,hf,hi,rfl⟩,p0,p2,p3,p4,p6,h0,h2,h5⟩
   subst h8
   try simp only[go_sem,p0,p2,p3,p4,p6,h0,h2,h5]
   refine(Ahu C l hl vals (by omega) nl hnl rg (by omega) 2 (by omega) a ha (r.length+5) _ (by rw[AsD];rfl)).mono ?_
   rintro _ _ ⟨⟨row,rfl,g1⟩,a,ha,rfl⟩
   have hj:=g1
   cases g1 with
   |mk o1 t1 m1 n1 ks1 q1 z1=>
   have f1:∀(hh:VH) (d:Nat),B5 (fun row=>B5 (frz hh (d+1)) row) (h3.map eCl)=some (h3.map eCl,[]):=fun hh d=>KO fun x hx=>by obtain⟨y,_,rfl⟩:=List.mem_map.1 hx;rfl
   have f2:∀(hh:VH) (d:Nat),B5 (fun row=>B5 (frz hh (d+1)) row) (h4.map fun l=>[VV.ls l])=some (h4.map fun l=>[VV.ls l],[]):=fun hh d=>KO fun x hx=>by obtain⟨y,_,rfl⟩:=List.mem_map.1 hx;rfl
   try simp only[go_sem,p0,p2,p3,p4,p6,h0,h2,h5,f1,f2,hc,hg]
   refine⟨⟨⟨bs [109,97,100,101],vals,h3,h4,ask,o1,t1,m1,n1,ks1⟩,by rw[List.take_of_length_le (by omega),List.take_of_length_le (by omega)],?_⟩,a,ha,rfl⟩
   refine⟨⟨by show(4:Nat)<=1000;decide,by show h3.length<=1000;omega,fun x hx=>?_,by show h4.length<=1000;omega,fun x hx=>?_,hj⟩,hv.1,hv.2,by show h3.length<=4;omega,by show(h3.map (·.1)).Nodup;rw[h6];exact Afb _ hnl.2,he,by show 1<=h4.length;omega,by show h4.length<=4;omega⟩
   .have:x.1∈Hx nl:=h6 ▸ List.mem_map.2 ⟨x,hx,rfl⟩
    exact A95 _ this
   .have:=hf x hx
    exact⟨by omega,by show ∀s∈x,GS (h3.map (·.1)) s;rw[h6];exact this.2⟩
  .simp only[go_sem,p0,p2,p3,p4,p6,h0,h2]
  .simp only[go_sem,p0,p2,p3,p4,p6,h0,h2]
   exact⟨a,[],[],ha,rfl,rfl,by simp,by simp,rfl⟩
 .simp only[go_sem]
 .simp only[go_sem]
  exact⟨a,[],ha,rfl,rfl,by simp,rfl⟩
def isP(v:VV):Prop:=∃p:PP,v=p.v/\GP2 p
theorem Adj(l:List U8)(hl:l.length<=1000/\∀x∈l,x.n<256)(vals:Int)(hv:2<=vals/\vals<=4)(nl:Nat)(hnl:1<=nl/\nl<=4)(a:Nat)(ha:a<=l.length)(r:VH){x0:Option VO} :
  J7 V AdK [.p 1 0 0 0,vHp vals nl] (x0::MO l a::r) fun v h=>isP v/\MS x0 l r h:=by
 rw[DG C.h_z76]
 simp only[AiG,go_sem]
 refine(AU C l hl a ha _ _).mono ?_
 rintro _ _ ⟨k,rfl,hk,a,ha,rfl⟩
 by_cases k0:(k:Int)=0
 .simp only[go_sem,k0,A0]
  refine(XE C l hl vals hv nl hnl 1 3 1 (by omega) (by omega) (by omega) a ha _).mono ?_
  rintro _ _ ⟨⟨p,rfl,hp⟩,a,ha,rfl⟩
  try simp only[go_sem,k0,A0]
  exact⟨⟨p,rfl,hp⟩,a,ha,rfl⟩
 by_cases k1:(k:Int)=1
 .simp only[go_sem,k0,k1,A0]
  refine(XE C l hl vals hv nl hnl 3 1 0 (by omega) (by omega) (by omega) a ha _).mono ?_
  rintro _ _ ⟨⟨p,rfl,hp⟩,a,ha,rfl⟩
  try simp only[go_sem,k0,A0]
  exact⟨⟨p,rfl,hp⟩,a,ha,rfl⟩
 .simp only[go_sem,k0,k1,A0]
  refine(XE C l hl vals hv nl hnl 2 2 1 (by omega) (by omega) (by omega) a ha _).mono ?_
  rintro _ _ ⟨⟨p,rfl,hp⟩,a,ha,rfl⟩
  try simp only[go_sem,k0,A0]
  exact⟨⟨p,rfl,hp⟩,a,ha,rfl⟩
theorem Adi(l:List U8)(hl:l.length<=1000/\∀x∈l,x.n<256)(a:Nat)(ha:a<=l.length)(r:VH){x0:Option VO} :
  J7 V Adv [.p 1 0 0 0] (x0::MO l a::r) fun v h=>isP v/\MS x0 l r h:=by
 rw[DG C.h_z28]
 simp only[AiA,go_sem]
 refine(AU C l hl a ha _ _).mono ?_
 rintro _ _ ⟨k,rfl,hk,a,ha,rfl⟩
 have w1:IntKind.i64.wrap (1+(k:Int))=((1+k:Nat):Int):=by rw[Ax (by omega) (by have:=hk (by omega);omega)];omega
 simp only[go_sem,w1]
 refine(Adj C l hl 2 (by omega) (1+k) (by have:=hk (by omega);omega) a ha _).mono ?_
 rintro _ _ ⟨⟨p,rfl,hp⟩,a,ha,rfl⟩
 try simp only[go_sem]
 exact⟨⟨p,rfl,hp⟩,a,ha,rfl⟩
theorem Ahs(l:List U8)(x0:Option VO){Q:VV->VH->Prop}(hq:Q (.p 1 0 0 0) [x0,MO l 0]):Lx V Rq [lU l] [x0] Q:=by
 rw[G4 C.h_z27]
 simp only[A0y,go_sem]
 exact hq
theorem Aht(v:VV)(h:isP v):VP V A7O [v] fun x=>∃(t:A2) (e:Bool),x=.tu [vT t,.b e]/\(e=true->A7 t):=by
 obtain⟨p,rfl,hp⟩:=h
 rw[Ad C.c_z24.1 C.c_z24.2]
 obtain⟨_,⟨t,e,rfl,ht⟩,qb⟩:=DJ (SG C p hp)
 simp only[AbO,go_sem,qb]
 exact⟨t,_,rfl,fun h=>ht (by simpa using h)⟩
theorem XD(l:List U8)(hl:l.length<=1000/\∀x∈l,x.n<256):VP V AlI [lU l] fun x=>∃(t:A2) (e:Bool),x=.tu [vT t,.b e]/\(e=true->A7 t/\t.nodes.length<=30):=by
 rw[Ad C.c_z5.1 C.c_z5.2]
 simp only[Aoy,go_sem]
 refine Ahs C l _ ?_
 refine(Adi C l hl 0 (by omega) []).mono ?_
 rintro _ _ ⟨⟨p,rfl,hp⟩,a,ha,rfl⟩
 obtain⟨_,⟨t,e,rfl,ht⟩,qt⟩:=DJ (Aht C p.v ⟨p,rfl,hp⟩)
 cases e with
 |false=>
  simp only[go_sem,qt]
  exact⟨t,false,rfl,fun h=>absurd h (by simp)⟩
 |true=>
  simp only[go_sem,qt]
  refine⟨t,_,rfl,fun h=>⟨ht rfl,?_⟩⟩
  have:=of_decide_eq_true h
  omega
end
theorem Aby{α:Type}{d:α}{l m:List α}(h:l.length=m.length)(hj:∀j,j<l.length->l.getD j d=m.getD j d):l=m:=by
 apply List.ext_getElem h
 intro j h1 h2
 have:=hj j h1
 rw[List.getD_eq_getElem?_getD,List.getD_eq_getElem?_getD,List.getElem?_eq_getElem h1,List.getElem?_eq_getElem h2]at this
 exact this
section
variable {V:Ai}(C:Am V){Q:VV->Prop}
include C
theorem Ga(xs ys:List Int)(hl:xs.length<9223372036854775807):VP V AdE [lI xs,lI ys] Q↔Q (.b (decide (xs=ys))):=by
 refine Af ?_
 rw[Ad C.c_z51.1 C.c_z51.2]
 by_cases z:xs.length=ys.length
 .have z':(xs.length:Int)=ys.length:=by omega
  simp only[Ac1,go_sem,z']
  refine Ab (by decide) ys.length (by omega) (I:=fun k F h=>h=[]/\A3.tmp F 0=lI xs/\A3.tmp F 1=lI ys/\∀j,j<k->xs.getD j 0=ys.getD j 0) ?_ ?_ ?_ 0 _ _ (zero_le _) ?_ ?_
  .rintro k F h hk p5 ⟨rfl,p0,p1,p2⟩
   simp only[go_sem,p5,p0,p1,z']
   exact p2
  .rintro k F h hk p5 ⟨rfl,p0,p1,p2⟩
   have h0:k<xs.length:=by omega
   by_cases c:xs.getD k 0=ys.getD k 0
   .simp only[go_sem,p5,p0,p1,Ak hk,Ak h0,c]
    intro j hj
    by_cases e:j=k
    .rw[e];exact c
    .exact p2 j (by omega)
   .simp only[go_sem,p5,p0,p1,Ak hk,Ak h0,c]
    rw[eq_comm,decide_eq_false_iff_not]
    intro e;rw[e]at c;exact c rfl
  .rintro F h ⟨rfl,p0,p1,p2⟩
   simp only[go_sem,p0,p1]
   rw[eq_comm,decide_eq_true_iff]
   exact Aby (d:=0) z fun j hj=>p2 j (by omega)
  .simp only[go_sem]
  .simp only[go_sem]
   intro j hj;omega
 .have z':¬(xs.length:Int)=ys.length:=by omega
  simp only[Ac1,go_sem,z']
  rw[eq_comm,decide_eq_false_iff_not]
  intro e;rw[e]at z;exact z rfl
end
theorem Kg{t:A2}{l:List Int}(h:Cg t l=true):∀n∈l,BZ t n=true:=by
 intro n hn
 obtain⟨k,hk,rfl⟩:=List.mem_iff_getElem.1 hn
 simp only[Cg,Bool.and_eq_true]at h
 have:=Ag.1 h.1 k hk
 simp only[Ce,Bool.and_eq_true]at this
 have:=this.1.1
 rw[List.getD_eq_getElem?_getD,List.getElem?_eq_getElem hk]at this
 exact this
theorem Gi{p:Nat->Bool}{k:Nat}(h:∀j,j<k->p j=true)(hk:p k=true):∀j,j<k+1->p j=true:=by
 intro j hj
 by_cases e:j=k
 .subst e;exact hk
 .exact h j (by omega)
theorem KH{t:A2}{s:A8}(h:Cg t s.has=true->s.jf.length=s.has.length->s.mo.length=t.locs.length->(List.range s.has.length).all (GU t s)=true->(List.range s.mo.length).all (Dq t s)=true->(List.range s.has.length).all (Kj t s)=true->False):false=Bj t s:=by
 rw[eq_comm,<- Bool.not_eq_true]
 intro e
 simp only[Bj,Bool.and_eq_true,decide_eq_true_eq]at e
 exact h e.1.1.1.1.1 e.1.1.1.1.2 e.1.1.1.2 e.1.1.2 e.1.2 e.2
section
variable {V:Ai}(C:Am V){Q:VV->Prop}
include C
theorem BE(t:A2)(ht:A7 t)(s:A8)(hs:GI s):VP V A1f [vT t,HJ s] Q↔Q (.b (Bj t s)):=by
 refine Af ?_
 rw[Ad C.c_z32.1 C.c_z32.2]
 have hu:=ht.up
 have hn:=ht.n64
 have hh:=hs.has
 have hj:=hs.jf
 have hz:=hs.mo
 have s1:=fun(Q:VV->Prop)=>SS C t (by omega) s.has (by omega) (Q:=Q)
 cases c1:Cg t s.has with
 |false=>
  simp only[To,go_sem,s1,c1]
  exact KH fun h _ _ _ _ _=>by rw[c1]at h;cases h
 |true=>
 have h2:=Kg c1
 by_cases c2:¬s.jf.length=s.has.length
 .have he:¬(s.jf.length:Int)=s.has.length:=by omega
  simp only[To,go_sem,s1,c1,he]
  exact KH fun _ h _ _ _ _=>c2 h
 have c2:=Decidable.not_not.1 c2
 have he:(s.jf.length:Int)=s.has.length:=by omega
 by_cases c3:¬s.mo.length=t.locs.length
 .have ho:¬(s.mo.length:Int)=t.locs.length:=by omega
  simp only[To,go_sem,s1,c1,he,ho]
  exact KH fun _ _ h _ _ _=>c3 h
 have c3:=Decidable.not_not.1 c3
 have ho:(s.mo.length:Int)=t.locs.length:=by omega
 simp only[To,go_sem,s1,c1,he,ho]
 refine Ab (by decide) s.has.length (by omega) (I:=fun k F h=>h=[]/\A3.tmp F 2=.fp (eT t) 0/\A3.tmp F 3=.fp (Hd s) 0/\∀j,j<k->GU t s j=true) ?_ ?_ ?_ 0 _ _ (zero_le _) ?_ ?_
 .rintro k F h hk p5 ⟨rfl,p2,p3,p4⟩
  simp only[go_sem,p5,p2,p3]
  exact p4
 .rintro k F h hk p5 ⟨rfl,p2,p3,p4⟩
  have h6:k<s.jf.length:=by omega
  obtain⟨n,h0,h4⟩:=A9 (h2 _ (Aa (d:=0) hk))
  have h3:GU t s k=false->false=Bj t s:=fun h=>KH fun _ _ _ h1 _ _=>by rw[AB hk h]at h1;cases h1
  have hb:GU t s k=if(t.at n).kind=2 then AQ s.has (s.jf.getD k 0)&&G7 t (s.jf.getD k 0) (t.at n).loc&&decide ((t.at (s.jf.getD k 0).toNat).val=(t.at n).val)else decide (s.jf.getD k 0=-1):=by
   unfold GU;rw[h0,toNat_natCast]
  by_cases k2:(t.at n).kind=2
  .rw[if_pos k2]at hb
   cases w1:AQ s.has (s.jf.getD k 0)with
   |false=>
    simp only[go_sem,p5,p2,p3,Ak hk,Ak h6,h0,A5 h4,k2,Ae C s.has (by omega),C0,w1,A0]
    exact h3 (by rw[hb,w1];rfl)
   |true=>
   obtain⟨m,ha,hg⟩:=A9 (h2 _ (Ac.1 w1))
   have h5:GU t s k=(decide ((t.at m).kind=3)&&decide ((t.at m).loc=(t.at n).loc)&&decide ((t.at m).val=(t.at n).val)):=by
    rw[hb,w1];unfold G7;rw[ha,toNat_natCast,Bool.true_and]
   rw[ha]at w1
   cases x1:decide ((t.at m).kind=3)with
   |false=>
    simp only[go_sem,p5,p2,p3,Ak hk,Ak h6,h0,ha,A5 h4,A5 hg,k2,Ae C s.has (by omega),C0,w1,x1,A0]
    exact h3 (by rw[h5,x1];rfl)
   |true=>
   cases x2:decide ((t.at m).loc=(t.at n).loc)with
   |false=>
    simp only[go_sem,p5,p2,p3,Ak hk,Ak h6,h0,ha,A5 h4,A5 hg,k2,Ae C s.has (by omega),C0,w1,x1,x2,A0]
    exact h3 (by rw[h5,x1,x2];rfl)
   |true=>
   cases x3:decide ((t.at m).val=(t.at n).val)with
   |false=>
    simp only[go_sem,p5,p2,p3,Ak hk,Ak h6,h0,ha,A5 h4,A5 hg,k2,Ae C s.has (by omega),C0,w1,x1,x2,x3,A0]
    exact h3 (by rw[h5,x1,x2,x3];rfl)
   |true=>
    simp only[go_sem,p5,p2,p3,Ak hk,Ak h6,h0,ha,A5 h4,A5 hg,k2,Ae C s.has (by omega),C0,w1,x1,x2,x3,A0]
    exact Gi p4 (by rw[h5,x1,x2,x3];rfl)
  .rw[if_neg k2]at hb
   cases w1:decide (s.jf.getD k 0=-1)with
   |false=>
    simp only[go_sem,p5,p2,p3,Ak hk,Ak h6,h0,A5 h4,k2,w1,A0]
    exact h3 (by rw[hb,w1])
   |true=>
    simp only[go_sem,p5,p2,p3,Ak hk,Ak h6,h0,A5 h4,k2,w1,A0]
    exact Gi p4 (by rw[hb,w1])
 .rintro F h ⟨rfl,p2,p3,p4⟩
  have f1:=AD p4
  simp only[go_sem,p2,p3]
  refine Ab (by decide) s.mo.length (by omega) (I:=fun k F h=>h=[]/\A3.tmp F 2=.fp (eT t) 0/\A3.tmp F 3=.fp (Hd s) 0/\∀j,j<k->Dq t s j=true) ?_ ?_ ?_ 0 _ _ (zero_le _) ?_ ?_
  .rintro k F h hk p8 ⟨rfl,p2,p3,p4⟩
   simp only[go_sem,p8,p2,p3]
   exact p4
  .rintro k F h hk p8 ⟨rfl,p2,p3,p4⟩
   have hx:=hs.mi' k
   have h3:Dq t s k=false->false=Bj t s:=fun h=>KH fun _ _ _ _ h1 _=>by rw[AB hk h]at h1;cases h1
   by_cases z:(s.mo.getD k []).length=0
   .have z':((s.mo.getD k []).length:Int)=0:=by omega
    simp only[go_sem,p8,p2,p3,C7 hk,z',A0]
    exact h3 (by simp only[Dq,z];simp)
   have z':¬((s.mo.getD k []).length:Int)=0:=by omega
   have z0:0<(s.mo.getD k []).length:=by omega
   by_cases z1:¬((s.mo.getD k []).getD 0 []).length=1
   .have hm:¬(((s.mo.getD k []).getD 0 []).length:Int)=1:=by omega
    simp only[go_sem,p8,p2,p3,C7 hk,z',CT z0,hm,A0]
    have:decide ((s.mo.getD k []).getD 0 []=[(k:Int)])=false:=decide_eq_false fun e=>z1 (by rw[e];rfl)
    exact h3 (by simp only[Dq,this,Bool.and_false,Bool.false_and])
   have z1:=Decidable.not_not.1 z1
   have hm:(((s.mo.getD k []).getD 0 []).length:Int)=1:=by omega
   have z2:0<((s.mo.getD k []).getD 0 []).length:=by omega
   cases z3:decide (((s.mo.getD k []).getD 0 []).getD 0 0=k)with
   |false=>
    simp only[go_sem,p8,p2,p3,C7 hk,z',CT z0,hm,Ak z2,z3,A0]
    have:decide ((s.mo.getD k []).getD 0 []=[(k:Int)])=false:=decide_eq_false fun e=>by rw[e]at z3;simp at z3
    exact h3 (by simp only[Dq,this,Bool.and_false,Bool.false_and])
   |true=>
   have hq:Dq t s k=(List.range (s.mo.getD k []).length).all fun i=>decide (i=0)||Ca t ((s.mo.getD k []).getD i []) s.has k:=by
    have e1:(s.mo.getD k []).getD 0 []=[(k:Int)]:=by
     have z3:=of_decide_eq_true z3
     generalize (s.mo.getD k []).getD 0 []=c at *
     rcases c with _|⟨c0,_|⟨c1,c⟩⟩
     .simp at z1
     .simpa using z3
     .simp at z1
    have:decide ((s.mo.getD k []).getD 0 []=[(k:Int)])=true:=decide_eq_true e1
    simp only[Dq,this,z,decide_false,Bool.not_false,Bool.true_and]
   simp only[go_sem,p8,p2,p3,C7 hk,z',CT z0,hm,Ak z2,z3,A0]
   refine Ab (by decide) (s.mo.getD k []).length (by omega) (I:=fun i F h=>h=[]/\A3.tmp F 2=.fp (eT t) 0/\A3.tmp F 3=.fp (Hd s) 0/\A3.tmp F 8=.i .i64 k/\1<=i/\∀j,j<i->(decide (j=0)||Ca t ((s.mo.getD k []).getD j []) s.has k)=true) ?_ ?_ ?_ 1 _ _ (by omega) ?_ ?_
   .rintro i F h hi q9 ⟨rfl,q2,q3,q8,q1,q4⟩
    simp only[go_sem,q9,q2,q3,q8,C7 hk]
    exact⟨q1,q4⟩
   .rintro i F h hi q9 ⟨rfl,q2,q3,q8,q1,q4⟩
    have hw:=hs.mc' k i
    have s2:=fun(Q:VV->Prop)=>SP C t hu ((s.mo.getD k []).getD i []) s.has (by omega) (by omega) h2 k (Q:=Q)
    cases c4:Ca t ((s.mo.getD k []).getD i []) s.has k with
    |false=>
     simp only[go_sem,q9,q2,q3,q8,C7 hk,CT hi,s2,c4,A0]
     exact h3 (by rw[hq];exact AB hi (by rw[c4,decide_eq_false (by omega)];rfl))
    |true=>
     simp only[go_sem,q9,q2,q3,q8,C7 hk,CT hi,s2,c4,A0]
     exact Gi q4 (by rw[c4];simp)
   .rintro F h ⟨rfl,q2,q3,q8,q1,q4⟩
    simp only[go_sem,q2,q3,q8]
    exact Gi p4 (by rw[hq];exact AD q4)
   .simp only[go_sem,p2,p3,p8]
   .simp only[go_sem,p2,p3,p8]
    intro j hj
    simp[show j=0 by omega]
  .rintro F h ⟨rfl,p2,p3,p4⟩
   have f2:=AD p4
   simp only[go_sem,p2,p3]
   refine Ab (by decide) s.has.length (by omega) (I:=fun k F h=>h=[]/\A3.tmp F 2=.fp (eT t) 0/\A3.tmp F 3=.fp (Hd s) 0/\∀j,j<k->Kj t s j=true) ?_ ?_ ?_ 0 _ _ (zero_le _) ?_ ?_
   .rintro k F h hk hc ⟨rfl,p2,p3,p4⟩
    simp only[go_sem,hc,p2,p3]
    exact p4
   .rintro k F h hk hc ⟨rfl,p2,p3,p4⟩
    obtain⟨n,h0,h4⟩:=A9 (h2 _ (Aa (d:=0) hk))
    have h3:Kj t s k=false->false=Bj t s:=fun h=>KH fun _ _ _ _ _ h1=>by rw[AB hk h]at h1;cases h1
    have hd:Kj t s k=(!decide ((t.at n).kind=3)||decide (((s.mo.getD (t.at n).loc.toNat []).filter fun c=>AQ c (n:Int)).length=1)):=by unfold Kj;rw[h0,toNat_natCast]
    cases k3:decide ((t.at n).kind=3)with
    |false=>
     simp only[go_sem,hc,p2,p3,Ak hk,h0,A5 h4,k3,A0]
     exact Gi p4 (by rw[hd,k3];rfl)
    |true=>
    rw[k3,Bool.not_true,Bool.false_or]at hd
    obtain⟨l1,l2⟩:=ht.wloc h4 (.inr (of_decide_eq_true k3))
    obtain⟨lc,hf⟩:=Int.eq_ofNat_of_zero_le l1
    have hp:lc<s.mo.length:=by omega
    rw[hf,toNat_natCast]at hd
    simp only[go_sem,hc,p2,p3,Ak hk,h0,A5 h4,k3,A0]
    have hx:=hs.mi' lc
    refine Ab (by decide) (s.mo.getD lc []).length (by omega) (I:=fun i F h=>h=[some ⟨BS,0,0,false,[eN (t.at n)]⟩]/\A3.tmp F 2=.fp (eT t) 0/\A3.tmp F 3=.fp (Hd s) 0/\A3.tmp F 10=.i .i64 k/\A3.tmp F 11=.p 0 0 0 0/\A3.tmp F 12=.i .i64 ((((s.mo.getD lc []).take i).filter fun c=>AQ c (n:Int)).length:Nat)) ?_ ?_ ?_ 0 _ _ (zero_le _) ?_ ?_
    .rintro i F h hi hl ⟨rfl,q2,q3,h7,h8,h9⟩
     simp only[go_sem,hl,q2,q3,h7,h8,h9,hf,C7 hp]
    .rintro i F h hi hl ⟨rfl,q2,q3,h7,h8,h9⟩
     have hw:=hs.mc' lc i
     have s2:=fun(Q:VV->Prop)=>Ae C ((s.mo.getD lc []).getD i []) (by omega) (n:Int) (Q:=Q)
     have hr:(s.mo.getD lc []).take (i+1)=(s.mo.getD lc []).take i++[(s.mo.getD lc []).getD i []]:=by
      have e:=List.take_succ_eq_append_getElem hi
      have e2:(s.mo.getD lc []).getD i []=(s.mo.getD lc [])[i]:=by rw[List.getD_eq_getElem?_getD,List.getElem?_eq_getElem hi];rfl
      rw[e2];exact e
     cases c4:AQ ((s.mo.getD lc []).getD i []) (n:Int)with
     |false=>
      simp only[go_sem,hl,q2,q3,h7,h8,h9,hf,C7 hp,CT hi,Ak hk,h0,s2,DQ,c4,A0]
      have e:[(s.mo.getD lc []).getD i []].filter (fun c=>AQ c (n:Int))=[]:=by rw[List.filter_cons,c4];rfl
      rw[hr,List.filter_append,e,List.append_nil]
     |true=>
      have hy:(((s.mo.getD lc []).take i).filter fun c=>AQ c (n:Int)).length<=1000:=Nat.le_trans (List.length_filter_le _ _) (by rw[List.length_take];omega)
      have w1:=Hb (show(((s.mo.getD lc []).take i).filter fun c=>AQ c (n:Int)).length<9223372036854775807 by omega)
      simp only[go_sem,hl,q2,q3,h7,h8,h9,hf,C7 hp,CT hi,Ak hk,h0,s2,DQ,c4,w1,A0]
      have e:[(s.mo.getD lc []).getD i []].filter (fun c=>AQ c (n:Int))=[(s.mo.getD lc []).getD i []]:=by rw[List.filter_cons,c4];rfl
      rw[hr,List.filter_append,e,List.length_append];rfl
    .rintro F h ⟨rfl,q2,q3,h7,h8,h9⟩
     by_cases c5:((s.mo.getD lc []).filter fun c=>AQ c (n:Int)).length=1
     .simp only[go_sem,q2,q3,h7,h8,h9,List.take_length,c5]
      exact Gi p4 (by rw[hd,c5];rfl)
     .have hv:decide ((((s.mo.getD lc []).filter fun c=>AQ c (n:Int)).length:Int)=1)=false:=decide_eq_false (by omega)
      simp only[go_sem,q2,q3,h7,h8,h9,List.take_length,hv]
      exact h3 (by rw[hd];exact decide_eq_false c5)
    .simp only[go_sem,p2,p3,hc]
    .simp only[go_sem,p2,p3,hc]
   .rintro F h ⟨rfl,p2,p3,p4⟩
    have f3:=AD p4
    simp only[go_sem,p2,p3]
    unfold Bj
    rw[c1,decide_eq_true c2,decide_eq_true c3,f1,f2,f3];rfl
   .simp only[go_sem,p2,p3]
   .simp only[go_sem,p2,p3]
    intro j hj;omega
  .simp only[go_sem,p2,p3]
  .simp only[go_sem,p2,p3]
   intro j hj;omega
 .simp only[go_sem]
 .simp only[go_sem]
  intro j hj;omega
end
abbrev eD(t:A2):List VV:=[.i .i64 t.vals,lS t.locs,.ls (t.regs.map J8),.ls (t.nodes.map eN),lI (AjM t),lW (AlX t)]
abbrev vD(t:A2):VV:=.ag (eD t)
theorem AtR:min 4 6=4:=rfl
def hD(t:A2)(k:Nat):VH:=[some ⟨NL,0,0,false,[[.i .i64 0,.nl,.nl,.nl,.nl,.nl]]⟩,
 some ⟨AG,1,0,false,(CR t.nodes.length k (PB t) 0).map eI⟩,some ⟨AW,1,0,false,(CR t.nodes.length k (ovr t) 0#64).map eW⟩,
 some ⟨NL,0,0,false,[[.i .i64 t.vals,lS t.locs,.ls (t.regs.map J8),.ls (t.nodes.map eN),.sl 1 0 0 t.nodes.length,.sl 2 0 0 t.nodes.length]]⟩]
section
variable {V:Ai}(C:Am V){Q:VV->Prop}
include C
theorem NE(t:A2)(ht:A7 t):VP V Rg [vT t] Q↔Q (.tu [vD t,.b true]):=by
 refine Af ?_
 rw[Ad C.c_z179.1 C.c_z179.2]
 have hn:=ht.n64
 have hu:=ht.up
 have b1:t.nodes.length * 8<=A6:=by unfold A6;omega
 have s1:=fun(Q:VV->Prop)=>Nc C t ht (Q:=Q)
 simp only[A3u,go_sem,s1,b1,Int.le_refl,AtR]
 refine Aj (by decide) t.nodes.length (by omega) (I:=fun k F h=>A3.tmp F 1=.fp (eT t) 0/\A3.tmp F 2=.p 0 0 0 0/\A3.tmp F 4=.p 3 0 0 0/\A3.tmp F 22=.ls (t.nodes.map eN)/\h=hD t k) ?_ ?_ 0 _ _ (by omega) ?_ ?_ ?_
 .rintro k F h hk h4 h3 ⟨p1,p2,p4,h1,rfl⟩
  have h5:=hu k hk
  by_cases c:0<=(t.at k).up
  .obtain⟨u,h2⟩:=Int.eq_ofNat_of_zero_le c
   have h0:u<t.nodes.length:=by omega
   have g1:=A8Q (n:=t.nodes.length) (k:=k) (j:=u) (f:=PB t) (z:=(0:Int)) (by omega) h0
   have g2:=A8Q (n:=t.nodes.length) (k:=k) (j:=u) (f:=ovr t) (z:=0#64) (by omega) h0
   have d1:=AjN hu (u+1) u (by omega) h0
   have wd:IntKind.i64.wrap (PB t u+1)=PB t k:=by rw[A2A hu hk h2,Ax (by omega) (by omega)]
   have wo:=(Ae3 hu hk h2).symm
   simp only[go_sem,h4,h3,p1,p2,p4,h1,hD,hk,A5 hk,c,h2,h0,g1,g2,C5 C,A0,J3 hk,wd,wo]
   have e:=MP (n:=t.nodes.length) (k:=k) (f:=PB t) (z:=(0:Int)) id
   rw[List.map_id,List.map_id]at e
   rw[show PB t k=id (PB t k) from rfl,e]
  .simp only[go_sem,h4,h3,p1,p2,p4,h1,hD,hk,A5 hk,c,A0]
   rw[TZ (f:=PB t) (Abo (by omega)),TZ (f:=ovr t) (Ae2 (by omega))]
 .rintro F h ⟨p1,p2,p4,h1,rfl⟩
  simp only[go_sem,p1,p2,p4,h1,hD]
  rw[H7,H7];rfl
 .simp only[go_sem]
 .simp only[go_sem]
 .simp only[go_sem]
  rw[hD,EM,EM]
theorem Jz(t:A2){n:Nat}(hn:n<t.nodes.length):VP V YJ [vD t,.i .i64 n] Q↔Q (.b (decide ((t.at n).thread<0))):=by
 refine Af ?_
 rw[Ad C.c_z217.1 C.c_z217.2]
 simp only[A3V,go_sem,A5 hn]
theorem ZF(t:A2){n:Nat}(hn:n<t.nodes.length):VP V Rm [vD t,.i .i64 n] Q↔Q (.b (decide ((t.at n).up<0))):=by
 refine Af ?_
 rw[Ad C.c_z208.1 C.c_z208.2]
 simp only[A3N,go_sem,A5 hn]
theorem H6(t:A2)(ht:A7 t){a b:Nat}(ha:a<t.nodes.length)(hb:b<t.nodes.length):VP V YK [vD t,.i .i64 a,.i .i64 b] Q↔Q (.b (AK t a b)):=by
 refine Af ?_
 rw[Ad C.c_z218.1 C.c_z218.2]
 have e:=Ut ht.up ht.n64 ha hb
 cases c:decide (PB t a<PB t b)with
 |false=>
  simp only[UX,go_sem,Ml ha,Ml hb,c]
  rw[<- e,c];rfl
 |true=>
  simp only[UX,go_sem,Ml ha,Ml hb,Ae1 hb,c,AS C]
  rw[<- e,c];rfl
theorem T4(t:A2)(ht:A7 t){a b:Nat}(ha:a<t.nodes.length)(hb:b<t.nodes.length):VP V Rh [vD t,.i .i64 a,.i .i64 b] Q↔Q (.b (Ao t a b)):=by
 refine Af ?_
 rw[Ad C.c_z181.1 C.c_z181.2]
 have e:Ao t a b=if(t.at a).thread<0 then decide (0<=(t.at b).thread)else AK t a b:=by
  unfold Ao;rw[C1 ha,C1 hb,toNat_natCast,toNat_natCast];rfl
 cases c:decide ((t.at a).thread<0)with
 |true=>
  simp only[UV,go_sem,Jz C t ha,Jz C t hb,c]
  rw[e,if_pos (of_decide_eq_true c)]
  by_cases d:(t.at b).thread<0
  .rw[decide_eq_true d,decide_eq_false (by omega)];rfl
  .rw[decide_eq_false d,decide_eq_true (by omega)];rfl
 |false=>
  simp only[UV,go_sem,Jz C t ha,H6 C t ht ha hb,c]
  rw[e,if_neg (of_decide_eq_false c)]
theorem S8(t:A2)(ht:A7 t){a b:Nat}(ha:a<t.nodes.length)(hb:b<t.nodes.length):VP V Rl [vD t,.i .i64 a,.i .i64 b] Q↔Q (.b (AO t a b)):=by
 refine Af ?_
 rw[Ad C.c_z206.1 C.c_z206.2]
 have e:AO t a b=(!decide ((a:Int)=b)&&decide (0<=(t.at a).thread)&&decide ((t.at a).thread=(t.at b).thread)&&!AK t a b&&!AK t b a):=by
  unfold AO;rw[C1 ha,C1 hb,toNat_natCast,toNat_natCast];rfl
 cases c1:decide ((a:Int)=b)<;>cases c2:decide (0<=(t.at a).thread)<;>cases c3:decide ((t.at a).thread=(t.at b).thread)<;>cases c4:AK t a b<;>cases c5:AK t b a<;>rw[c1,c2,c3,c4,c5]at e <;>
  simp only[A3L,go_sem,A5 ha,A5 hb,H6 C t ht ha hb,H6 C t ht hb ha,c1,c2,c3,c4,c5]<;>first|exact e.symm|(rw[e];rfl)
theorem C8(n:AI):VP V YC [vN n] Q↔Q (.b (CY n)):=by
 refine Af ?_
 rw[Ad C.c_z209.1 C.c_z209.2]
 cases c1:decide (n.kind=3)<;>cases c2:decide (0<=n.thread)<;>cases c3:decide (n.mode=0)<;>cases c4:n.rmw <;>
  simp only[A3O,go_sem,c1,c2,c3,c4]<;>simp[CY,c1,c2,c3,c4]
end
theorem TN(L:Nat):∀(l:List (List VV)),(∀r∈l,∃x,r=[vW x])->l.all (CK L)=true:=by
 intro l h
 rw[all_eq_true]
 intro r hr
 obtain⟨x,rfl⟩:=h r hr
 rfl
theorem Aag{l:List (BitVec 64)}{k:Nat}{x:BitVec 64}:∀r∈(l.map eW).set k [vW x],∃x,r=[vW x]:=by
 intro r hr
 rcases List.mem_or_eq_of_mem_set hr with h|h
 .obtain⟨y,_,rfl⟩:=List.mem_map.1 h;exact⟨y,rfl⟩
 .exact⟨x,h⟩
theorem Aaf{l:List (BitVec 64)}:∀r∈l.map eW,∃x,r=[vW x]:=by
 intro r hr
 obtain⟨y,_,rfl⟩:=List.mem_map.1 hr;exact⟨y,rfl⟩
theorem TR(p:Nat->Bool):(BR fun b=>decide (b<0)&&p b)=0#64:=by
 rw[<- GH]
 exact Bx fun j _=>by simp
theorem TQ{k:Nat}(hk:k<64)(p:Nat->Bool)(h:p k=true):(BR fun b=>decide (b<k)&&p b)|||BC k=BR fun b=>decide (b<k+1)&&p b:=by
 rw[MJ _ k hk]
 refine Bx fun j _=>?_
 by_cases e:j=k
 .subst e;simp[h]
 .have:(j<k+1)↔(j<k):=by omega
  simp[e,this]
theorem TP{k:Nat}(p:Nat->Bool)(h:p k=false):(BR fun b=>decide (b<k)&&p b)=BR fun b=>decide (b<k+1)&&p b:=by
 refine Bx fun j _=>?_
 by_cases e:j=k
 .subst e;simp[h]
 .have:(j<k+1)↔(j<k):=by omega
  simp[this]
section
variable {V:Ai}(C:Am V){Q:VV->Prop}
include C
theorem A5G(t:A2)(hn:t.nodes.length<=64){gf:Nat}{a c:List VV}(ha:Fz a)(hc:Fz c)(p:Nat->Bool)
  (hp:∀(i:Nat),i<t.nodes.length->VP V gf (a++[.i .i64 (i:Nat)]++c) fun r=>r=.b (p i)) :
  VP V YB [vD t,.f gf a c] Q↔Q (vW (BR fun b=>decide (b<t.nodes.length)&&p b)):=by
 refine Af ?_
 rw[Ad C.c_z207.1 C.c_z207.2]
 simp only[A3M,go_sem,ha.call hc]
 refine Aj (by decide) t.nodes.length (by omega) (I:=fun k F h=>A3.tmp F 1=.f gf a c/\A3.tmp F 5=vW (BR fun b=>decide (b<k)&&p b)/\h=[]) ?_ ?_ 0 _ _ (by omega) ?_ ?_ ?_
 .rintro k F h hk h2 h1 ⟨p1,p5,rfl⟩
  have hq:=fun Q=>Af (hp k hk) (Q:=Q)
  have h0:=ha.call hc (h:=[]) (x:=[.i .i64 (k:Nat)]) rfl
  simp only[List.append_assoc,List.cons_append,List.nil_append]at hq h0
  cases z:p k with
  |false=>
   simp only[go_sem,h2,h1,p1,p5,h0,hq,Fz.bel ha,Fz.bel hc,A0,z]
   rw[TP p z]
  |true=>
   simp only[go_sem,h2,h1,p1,p5,h0,hq,Fz.bel ha,Fz.bel hc,A0,z,C5 C,TQ (show k<64 by omega) p z]
 .rintro F h ⟨p1,p5,rfl⟩
  simp only[go_sem,p1,p5]
 .simp only[go_sem]
 .simp only[go_sem]
 .simp only[go_sem,TR]
def hR(n k i:Nat)(p:Nat->Nat->Bool):VH:=[some ⟨AW,1,0,false,((CR n k (fun x=>BR fun b=>decide (b<n)&&p x b) 0#64).map eW).set k [vW (BR fun b=>decide (b<i)&&p k b)]⟩]
theorem Pg(t:A2)(hn:t.nodes.length<=64){gf:Nat}{a c:List VV}(ha:Fz a)(hc:Fz c)(p:Nat->Nat->Bool)
  (hp:∀(i j:Nat),i<t.nodes.length->j<t.nodes.length->VP V gf (a++[.i .i64 (i:Nat),.i .i64 (j:Nat)]++c) fun r=>r=.b (p i j)) :
  VP V Yl [vD t,.f gf a c] Q↔Q (lW (Av t.nodes.length p)):=by
 refine Af ?_
 rw[Ad C.c_z180.1 C.c_z180.2]
 have b1:t.nodes.length * 8<=A6:=by unfold A6;omega
 simp only[A3v,go_sem,ha.call hc,b1,Int.le_refl]
 refine Aj (by decide) t.nodes.length (by omega) (I:=fun k F h=>A3.tmp F 1=.f gf a c/\A3.tmp F 5=.sl 0 0 0 t.nodes.length/\h=[some ⟨AW,1,0,false,(CR t.nodes.length k (fun x=>BR fun b=>decide (b<t.nodes.length)&&p x b) 0#64).map eW⟩]) ?_ ?_ 0 _ _ (by omega) ?_ ?_ ?_
 .rintro k F h hk h2 h1 ⟨p1,p5,rfl⟩
  simp only[go_sem,h2,h1,p1,p5,A0]
  refine Aj (by decide) t.nodes.length (by omega) (I:=fun i F h=>A3.tmp F 1=.f gf a c/\A3.tmp F 5=.sl 0 0 0 t.nodes.length/\A3.tmp F 6=.i .i64 k/\A3.tmp F 15=.i .i64 k/\A3.tmp F 14=.i .i64 t.nodes.length/\h=hR t.nodes.length k i p) ?_ ?_ 0 _ _ (by omega) ?_ ?_ ?_
  .rintro i F h hi h6 h5 ⟨q1,q5,q6,h4,h3,rfl⟩
   have hq:=fun Q=>Af (hp k i hk hi) (Q:=Q)
   have h0:=ha.call hc (h:=hR t.nodes.length k i p) (x:=[.i .i64 (k:Nat),.i .i64 (i:Nat)]) rfl
   simp only[List.append_assoc,List.cons_append,List.nil_append]at hq h0
   cases z:p k i with
   |false=>
    simp only[go_sem,h6,h5,q1,q5,q6,h4,h3,h0,hq,Fz.bel ha,Fz.bel hc,A0,z]
    refine⟨rfl,?_⟩
    rw[hR,hR,TP (fun b=>p k b) z]
   |true=>
    rw[hR]at h0
    have hg:(((CR t.nodes.length k (fun x=>BR fun b=>decide (b<t.nodes.length)&&p x b) 0#64).map eW).set k [vW (BR fun b=>decide (b<i)&&p k b)])[k]? = some [vW (BR fun b=>decide (b<i)&&p k b)]:=List.getElem?_set_self (by rw[length_map,S9];exact hk)
    simp only[go_sem,h6,h5,q1,q5,q6,h4,h3,h0,hq,Fz.bel ha,Fz.bel hc,A0,z,C5 C,hR,hk,hg,List.set_set,TQ (show i<64 by omega) (fun b=>p k b) z]
    exact .inr (TN _ _ Aag)
  .rintro F h ⟨q1,q5,q6,h4,h3,rfl⟩
   simp only[go_sem,q1,q5,q6,h4,h3,Fz.bel ha,Fz.bel hc]
   have e:hR t.nodes.length k t.nodes.length p=[some ⟨AW,1,0,false,(CR t.nodes.length (k+1) (fun x=>BR fun b=>decide (b<t.nodes.length)&&p x b) 0#64).map eW⟩]:=by rw[hR,MP (f:=fun x=>BR fun b=>decide (b<t.nodes.length)&&p x b) eW]
   rw[e]
   exact⟨⟨.inr (fun x hx=>by cases hx;exact TN _ _ Aaf),trivial⟩,rfl⟩
  .simp only[go_sem,p1,p5,h2,h1]
  .simp only[go_sem,p1,p5,h2,h1]
  .simp only[go_sem,p1,p5,h2,h1,Fz.bel ha,Fz.bel hc]
   rw[hR,TR]
   have e:((CR t.nodes.length k (fun x=>BR fun b=>decide (b<t.nodes.length)&&p x b) 0#64).map eW).set k [vW 0#64]=(CR t.nodes.length k (fun x=>BR fun b=>decide (b<t.nodes.length)&&p x b) 0#64).map eW:=by
    have g:((CR t.nodes.length k (fun x=>BR fun b=>decide (b<t.nodes.length)&&p x b) 0#64).map eW)[k]? = some [vW 0#64]:=by rw[getElem?_map,J3 hk];rfl
    obtain⟨g1,g2⟩:=List.getElem?_eq_some_iff.1 g
    rw[<- g2,List.set_getElem_self]
   rw[e]
 .rintro F h ⟨p1,p5,rfl⟩
  simp only[go_sem,p1,p5,H7]
  rfl
 .simp only[go_sem]
 .simp only[go_sem]
 .simp only[go_sem,EM]
theorem fzD(t:A2):Fz [vD t]:=fun _ _=>rfl
theorem Pv(t:A2)(ht:A7 t):VP V Yd [vT t] Q↔Q (lW (Av t.nodes.length fun a b=>AO t a b)):=by
 refine Af ?_
 rw[Ad C.c_z163.1 C.c_z163.2]
 have s1:=fun(Q:VV->Prop)=>NE C t ht (Q:=Q)
 have s2:=fun(Q:VV->Prop)=>Pg C t ht.n64 (gf:=Rl) (fzD C t) Fz.nil (fun a b=>AO t a b) (fun i j hi hj=>(S8 C t ht hi hj).2 rfl) (Q:=Q)
 simp only[A3m,go_sem,s1,s2]
theorem Aas(t:A2)(ht:A7 t):VP V XW [vT t] Q↔Q (lW (Av t.nodes.length fun a b=>Ao t a b)):=by
 refine Af ?_
 rw[Ad C.c_z128.1 C.c_z128.2]
 have s1:=fun(Q:VV->Prop)=>NE C t ht (Q:=Q)
 have s2:=fun(Q:VV->Prop)=>Pg C t ht.n64 (gf:=Rh) (fzD C t) Fz.nil (fun a b=>Ao t a b) (fun i j hi hj=>(T4 C t ht hi hj).2 rfl) (Q:=Q)
 simp only[A30,go_sem,s1,s2]
theorem ZE(t:A2)(ht:A7 t):VP V Ye [vT t] Q↔Q (vW (Ed t)):=by
 refine Af ?_
 rw[Ad C.c_z164.1 C.c_z164.2]
 have s1:=fun(Q:VV->Prop)=>NE C t ht (Q:=Q)
 have s2:=fun(Q:VV->Prop)=>A5G C t ht.n64 (gf:=Rm) (fzD C t) Fz.nil (fun a=>decide ((t.at a).up<0)) (fun i hi=>(ZF C t hi).2 rfl) (Q:=Q)
 simp only[A3n,go_sem,s1,s2]
 rfl
end
def nw(n:Nat):AV:=.i .u64 (n:Int)
theorem Nn{e:Option Pk}(n k m:Nat)(h:k<64)(hm:2 ^ k=m):Bg .shr e (nw n) (.i .u64 k)=some (nw (n / m)):=by
 have:=Aba (e:=e) (a:=BitVec.ofNat 64 n) h
 have h0:¬((k:Int)<0):=by omega
 simp only[nw,Bg,GO,if_neg h0,IntKind.bits,Option.some.injEq,AV.i.injEq,true_and,toNat_natCast]
 rw[Nat.min_eq_left (by omega)]
 rw[show((2:Int) ^ k)=((2 ^ k:Nat):Int) by simp,Int.fdiv_eq_ediv_of_nonneg _ (Int.natCast_nonneg _),hm]
 rfl
theorem Rw{e:Option Pk}(n m:Nat)(hn:n<18446744073709551616)(hm:m<18446744073709551616):Bg .and e (nw n) (nw m)=some (nw (n&&&m)):=by
 have h:=A0c (e:=e) (a:=BitVec.ofNat 64 n) (b:=BitVec.ofNat 64 m)
 have e1:Wd (BitVec.ofNat 64 n)=nw n:=by unfold Wd nw;rw[toNat_ofNat,Nat.mod_eq_of_lt hn]
 have e2:Wd (BitVec.ofNat 64 m)=nw m:=by unfold Wd nw;rw[toNat_ofNat,Nat.mod_eq_of_lt hm]
 rw[e1,e2]at h
 rw[h]
 congr 1
 unfold Wd nw
 rw[BitVec.toNat_and,toNat_ofNat,toNat_ofNat,Nat.mod_eq_of_lt hn,Nat.mod_eq_of_lt hm]
theorem Nm{e:Option Pk}(n m:Nat)(h:n+m<18446744073709551616):Bg .add e (nw n) (nw m)=some (nw (n+m)):=by
 simp only[nw,Bg,G6,if_true,J6,Option.some.injEq,AV.i.injEq,true_and]
 omega
def wv(n:Nat):VV:=.i .u64 (n:Int)
theorem Dx{op:BinOp}{e:Option Pk}{a b c:Nat}(h:Bg op e (nw a) (nw b)=some (nw c)):B9 op e (wv a) (wv b)=some (wv c):=by
 show(Bg op e (nw a) (nw b)).bind Gx=_
 rw[h];rfl
section
variable {V:Ai}(C:Am V){Q:VV->Prop}
include C
theorem Sk(w:BitVec 64):VP V YE [vW w] Q↔Q (.i .i64 ((BP w).length:Nat)):=by
 refine Af ?_
 rw[Ad C.c_z211.1 C.c_z211.2]
 have hw:vW w=wv w.toNat:=rfl
 have hx:=w.isLt
 obtain⟨l1,l2,l3,l4,l5,l6,l7⟩:=Aug hx
 have hp:=Aa9 w
 rw[hw]
 generalize w.toNat=x at *
 have c0:VV.i .u64 6148914691236517205=wv 6148914691236517205:=rfl
 have c1:VV.i .u64 3689348814741910323=wv 3689348814741910323:=rfl
 have c2:VV.i .u64 1085102592571150095=wv 1085102592571150095:=rfl
 have k2:VV.i .u64 2=wv 2:=rfl
 have k4:VV.i .u64 4=wv 4:=rfl
 have k8:VV.i .u64 8=wv 8:=rfl
 have h1:VV.i .u64 16=wv 16:=rfl
 have h2:VV.i .u64 32=wv 32:=rfl
 have k1:vW 1#64=wv 1:=rfl
 have t1:∀e n,B9 .shr e (wv n) (wv 1)=some (wv (n / 2)):=fun e n=>Dx (Nn n 1 2 (by omega) rfl)
 have t2:∀e n,B9 .shr e (wv n) (wv 2)=some (wv (n / 4)):=fun e n=>Dx (Nn n 2 4 (by omega) rfl)
 have t4:∀e n,B9 .shr e (wv n) (wv 4)=some (wv (n / 16)):=fun e n=>Dx (Nn n 4 16 (by omega) rfl)
 have t8:∀e n,B9 .shr e (wv n) (wv 8)=some (wv (n / 256)):=fun e n=>Dx (Nn n 8 256 (by omega) rfl)
 have h3:∀e n,B9 .shr e (wv n) (wv 16)=some (wv (n / 65536)):=fun e n=>Dx (Nn n 16 65536 (by omega) rfl)
 have h4:∀e n,B9 .shr e (wv n) (wv 32)=some (wv (n / 4294967296)):=fun e n=>Dx (Nn n 32 4294967296 (by omega) rfl)
 have b1:∀e,B9 .and e (wv (x / 2)) (wv 6148914691236517205)=some (wv (x / 2&&&6148914691236517205)):=fun e=>Dx (Rw _ _ (by omega) (by omega))
 have b2:∀e,B9 .and e (wv x) (wv 6148914691236517205)=some (wv (x&&&6148914691236517205)):=fun e=>Dx (Rw _ _ (by omega) (by omega))
 have b3:∀e,B9 .add e (wv (x / 2&&&6148914691236517205)) (wv (x&&&6148914691236517205))=some (wv (s1 x)):=fun e=>Dx (Nm _ _ l1)
 generalize hy1:s1 x=y1 at *
 have d1:∀e,B9 .and e (wv (y1 / 4)) (wv 3689348814741910323)=some (wv (y1 / 4&&&3689348814741910323)):=fun e=>Dx (Rw _ _ (by omega) (by omega))
 have d2:∀e,B9 .and e (wv y1) (wv 3689348814741910323)=some (wv (y1&&&3689348814741910323)):=fun e=>Dx (Rw _ _ (by omega) (by omega))
 have d3:∀e,B9 .add e (wv (y1 / 4&&&3689348814741910323)) (wv (y1&&&3689348814741910323))=some (wv (s2 y1)):=fun e=>Dx (Nm _ _ l2)
 generalize hy2:s2 y1=y2 at *
 have f1:∀e,B9 .add e (wv (y2 / 16)) (wv y2)=some (wv (y2 / 16+y2)):=fun e=>Dx (Nm _ _ l3)
 have f2:∀e,B9 .and e (wv (y2 / 16+y2)) (wv 1085102592571150095)=some (wv (s3 y2)):=fun e=>Dx (Rw _ _ l3 (by omega))
 generalize hy3:s3 y2=y3 at *
 have g1:∀e,B9 .add e (wv y3) (wv (y3 / 256))=some (wv (s4 y3)):=fun e=>Dx (Nm _ _ l5)
 generalize hy4:s4 y3=y4 at *
 have g2:∀e,B9 .add e (wv y4) (wv (y4 / 65536))=some (wv (s5 y4)):=fun e=>Dx (Nm _ _ l6)
 generalize hy5:s5 y4=y5 at *
 have g3:∀e,B9 .add e (wv y5) (wv (y5 / 4294967296))=some (wv (s6 y5)):=fun e=>Dx (Nm _ _ (by have:s6 y5=y5+y5 / 4294967296:=rfl;omega))
 generalize hy6:s6 y5=y6 at *
 have g4:∀e,B9 .and e (.i .i64 (IntKind.i64.wrap (y6:Int))) (.i .i64 127)=some (.i .i64 ((y6 % 128:Nat):Int)):=by
  intro e
  rw[Ax (by omega) (by omega)]
  have w2:(BitVec.ofInt 64 (y6:Int)).toNat=y6:=by
   rw[BitVec.ofInt_natCast,toNat_ofNat]
   exact Nat.mod_eq_of_lt (by omega)
  have w3:(BitVec.ofInt 64 127).toNat=127:=rfl
  have w4:y6&&&127=y6 % 128:=Nat.and_two_pow_sub_one_eq_mod y6 7
  have w5:(BitVec.ofInt 64 (y6:Int)&&&BitVec.ofInt 64 127).toNat=y6 % 128:=by
   rw[BitVec.toNat_and,w2,w3,w4]
  have h:Bg .and e (.i .i64 (y6:Int)) (.i .i64 127)=some (.i .i64 ((y6 % 128:Nat):Int)):=by
   simp only[Bg,G6,if_true,Option.some.injEq,AV.i.injEq,true_and]
   show IntKind.i64.wrap (((BitVec.ofInt 64 (y6:Int)&&&BitVec.ofInt 64 127).toNat:Nat):Int)=_
   rw[w5,Ax (by omega) (by omega)]
  show(Bg .and e (.i .i64 (y6:Int)) (.i .i64 127)).bind Gx=_
  rw[h];rfl
 have h0:∀h,Abk .i64 (wv y6) h=some (.i .i64 (IntKind.i64.wrap (y6:Int)),h):=fun _=>rfl
 simp only[A3Q,go_sem,c0,c1,c2,k1,k2,k4,k8,h1,h2,t1,t2,t4,t8,h3,h4,b1,b2,b3,d1,d2,d3,f1,f2,g1,g2,g3,h0,g4,hp]
theorem Je(w:BitVec 64):VP V Yh [vW w] Q↔Q (.i .i64 ((BP w).length:Nat)):=by
 refine Af ?_
 rw[Ad C.c_z167.1 C.c_z167.2]
 simp only[A3p,go_sem,Sk C]
end
abbrev cfL(t:A2):Rows:=Av t.nodes.length fun a b=>AO t a b
abbrev eFm(t:A2)(s:A8):List VV:=[.i .i64 t.vals,lS t.locs,.ls (t.regs.map J8),.ls (t.nodes.map eN),lI s.has,lI s.jf,.ls (s.mo.map EV),vW (BI s.has),lW (cfL t)]
theorem Apa:min 4 9=4:=rfl
theorem mn3:min 3 5=3:=rfl
section
variable {V:Ai}(C:Am V){Q:VV->Prop}
include C
theorem A5C(t:A2)(ht:A7 t)(s:A8)(hs:GI s):VP V A8j [vT t,HJ s] Q↔Q (.fp (eFm t s) 0):=by
 refine Af ?_
 rw[Ad C.c_z95.1 C.c_z95.2]
 have hh:=hs.has
 have s1:=fun(Q:VV->Prop)=>Pv C t ht (Q:=Q)
 simp only[Acj,go_sem,s1,D4 C s.has (by omega),Apa,mn3]
theorem HG(t:A2)(ht:A7 t)(s:A8)(hn:BF t s.has)(n loc:Int):VP V Yf [.fp (eFm t s) 0,.i .i64 n,.i .i64 loc] Q↔Q (.b (Bu t s.has n loc)):=by
 refine Af ?_
 rw[Ad C.c_z165.1 C.c_z165.2]
 have h0:=ht.n64
 cases c1:AQ s.has n with
 |false=>
  simp only[UR,go_sem,AS C,hn.has h0,c1]
  simp[Bu,c1]
 |true=>
  obtain⟨m,rfl,hm⟩:=A9 (hn n (Ac.1 c1))
  have e:Bu t s.has m loc=(decide ((t.at m).kind=3)&&decide ((t.at m).loc=loc)):=by
   unfold Bu G7;rw[c1,toNat_natCast,Bool.true_and]
  cases c2:decide ((t.at m).kind=3)<;>cases c3:decide ((t.at m).loc=loc)<;>rw[c2,c3]at e <;>
   simp only[UR,go_sem,AS C,hn.has h0,c1,A5 hm,c2,c3]<;>first|exact e.symm|(rw[e];rfl)
theorem SY(t:A2)(ht:A7 t)(s:A8)(n:Nat)(hn:n<t.nodes.length)(l:List Int)(hl:l.length<=1000)(hv:BF t l):VP V YD [.fp (eFm t s) 0,.i .i64 n,lI l] Q↔Q (.b (l.all fun m=>B1 t n m)):=by
 refine Af ?_
 rw[Ad C.c_z210.1 C.c_z210.2]
 have h8:=ht.n64
 simp only[A3P,go_sem]
 refine Aj (by decide) l.length (by omega) (I:=fun k F h=>A3.tmp F 0=.fp (eFm t s) 0/\A3.tmp F 1=.i .i64 n/\A3.tmp F 11=lI l/\h=[]/\∀(j:Nat) (hj:j<l.length),j<k->B1 t n l[j]=true) ?_ ?_ 0 _ _ (by omega) ?_ ?_ ?_
 .rintro k F h hk h4 h3 ⟨p0,p1,h0,rfl,p2⟩
  obtain⟨m,h6,hm⟩:=A9 (hv l[k] (List.getElem_mem hk))
  have h1:l[k]? = some (m:Int):=by rw[List.getElem?_eq_getElem hk,h6]
  have e:B1 t n m=(CY (t.at n)&&CY (t.at m)&&decide ((t.at n).val=(t.at m).val)&&AO t n m):=by
   unfold B1;rw[toNat_natCast,toNat_natCast]
  have h7:(cfL t)[n]? = some (BR fun b=>decide (b<t.nodes.length)&&AO t n b):=BK hn
  have h2:Bh (BR fun b=>decide (b<t.nodes.length)&&AO t n b) (m:Int)=AO t n m:=by
   have:=GY (p:=fun a b=>AO t a b) h8 hn hm
   rw[List.getD_eq_getElem?_getD,BK hn,Option.getD_some]at this
   exact this
  have h5:B1 t n m=false->false=l.all fun m=>B1 t n m:=fun h=>by
   rw[eq_comm,List.all_eq_false]
   exact⟨l[k],List.getElem_mem hk,by rw[h6,h];simp⟩
  have good:B1 t n m=true->∀(j:Nat) (hj:j<l.length),j<k+1->B1 t n l[j]=true:=fun h j hj h9=>by
   by_cases e:j=k
   .subst e;rw[h6];exact h
   .exact p2 j hj (by omega)
  cases c1:CY (t.at n)with
  |false=>
   simp only[go_sem,h4,h3,p0,p1,h0,hk,h1,A5 hn,A5 hm,C8 C,c1,A0]
   exact h5 (by rw[e,c1];rfl)
  |true=>
  cases c2:CY (t.at m)with
  |false=>
   simp only[go_sem,h4,h3,p0,p1,h0,hk,h1,A5 hn,A5 hm,C8 C,c1,c2,A0]
   exact h5 (by rw[e,c1,c2];rfl)
  |true=>
  cases c3:decide ((t.at n).val=(t.at m).val)with
  |false=>
   simp only[go_sem,h4,h3,p0,p1,h0,hk,h1,A5 hn,A5 hm,C8 C,c1,c2,c3,A0]
   exact h5 (by rw[e,c1,c2,c3];rfl)
  |true=>
  cases c4:AO t n m with
  |false=>
   simp only[go_sem,h4,h3,p0,p1,h0,hk,h1,A5 hn,A5 hm,C8 C,c1,c2,c3,h7,AS C,h2,c4,A0]
   exact h5 (by rw[e,c1,c2,c3,c4];rfl)
  |true=>
   simp only[go_sem,h4,h3,p0,p1,h0,hk,h1,A5 hn,A5 hm,C8 C,c1,c2,c3,h7,AS C,h2,c4,A0]
   exact good (by rw[e,c1,c2,c3,c4];rfl)
 .rintro F h ⟨p0,p1,h0,rfl,p2⟩
  simp only[go_sem,p0,p1,h0]
  rw[eq_comm,all_eq_true]
  intro x hx
  obtain⟨j,hj,rfl⟩:=List.mem_iff_getElem.1 hx
  exact p2 j hj hj
 .simp only[go_sem]
 .simp only[go_sem]
 .simp only[go_sem]
  intro j hj h9;omega
end
end Go.AM
