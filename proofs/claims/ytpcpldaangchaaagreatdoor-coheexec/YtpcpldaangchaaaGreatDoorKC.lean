/-
  Own work, part of the proof of CoheExec: what functions compute (third part).
-/
import Derived.Test.YtpcpldaangchaaaGreatDoorKB
import Derived.Test.YtpcpldaangchaaaGreatDoorKA
import Derived.Test.YtpcpldaangchaaaGreatDoorPl
import Derived.Test.YtpcpldaangchaaaGreatDoorAmE
set_option maxRecDepth 4000
set_option linter.unusedVariables false
set_option linter.unusedSimpArgs false
set_option linter.unusedSectionVars false
set_option linter.unnecessarySimpa false
namespace Go.AM
open Go Go.Proofs
theorem A72 {args:List VV} (y x:Option VO) (r:VH) (j:Nat) (h0:(QJ args).contains 1=true) (h1:(QJ args).contains (j+1+1)=true):∃ y' r',Bl (K6 args (y::x::r)) (y::x::r)=y'::x::r'∧r'[j]? = r[j]?:=by
 obtain ⟨⟨y',r'⟩,hr'⟩:=Ek y x r h0
 refine ⟨y',r',hr',?_⟩
 have:=A24 (y::x::r) (j+1+1) h1
 rw [hr'] at this
 simpa using this
def Acg (v:VV):Prop:=∃ row,v = .ag row∧GC row
section
variable {V:Al} (C:AA V) {Q:VV→Prop}
include C
set_option maxHeartbeats 8000000 in
theorem L0 (l:List U8) (hl:l.length≤1000∧∀ x∈l,x.n < 256) (vals:Int) (hv:1≤vals∧vals≤4) (nl:Nat) (hnl:1≤nl∧nl≤4) (rg:List (List ByteArray)) (hrg:1≤rg.length∧rg.length≤4) (d:Nat) (hd:d≤10)
  (ih:0 < d→∀ (a:Nat) (ha:a≤l.length) (j:Nat) (r:VH) (hR:r[j]? = some (some (AN Bu 1 (rg.map Js)))) {x0:Option VO},
   GT V Jd [.p 1 0 0 0,vHp vals nl,.sl (j+1+1) rg.length 0 rg.length,.i .i64 ((d - 1:Nat):Int)] (x0::MO l a::r) fun v h=>Acg v∧MS x0 l r h)
  (a:Nat) (ha:a≤l.length) (j:Nat) (r:VH) (hR0:r[j]? = some (some (AN Bu 1 (rg.map Js)))) {x0:Option VO} :
  GT V Jd [.p 1 0 0 0,vHp vals nl,.sl (j+1+1) rg.length 0 rg.length,.i .i64 d] (x0::MO l a::r) fun v h=>Acg v∧MS x0 l r h:=by
 have hjr:j < r.length:=(List.getElem?_eq_some_iff.1 hR0).1
 have hR:∀ x,(r++x)[j]? = some (some (AN Bu 1 (rg.map Js))):=fun x=>by rw [List.getElem?_append_left hjr];exact hR0
 have hbq:(List.length r+1 == j)=false:=by rw [beq_eq_false_iff_ne];omega
 have hix:=GU (ty:=Bu) (e:=1) (rows:=rg.map Js) (by rw [List.length_map];omega)
 rw [Ct C.h_z155]
 simp only [PM,AY,go_sem,↓reduceIte]
 refine (AJ C l hl a ha _ _).mono ?_
 rintro _ _ ⟨k,rfl,hk,a,ha,rfl⟩
 by_cases c0:(0:Int) < d
 ·by_cases c3:(3:Int) < k
  ·have wd:IntKind.i64.wrap (((d:Nat):Int) - 1)=((d - 1:Nat):Int):=by rw [AG (by omega) (by omega)];omega
   by_cases c4:(k:Int)=4
   ·simp only [AY,go_sem,↓reduceIte,c0,c3,c4,wd]
    refine (ih (by omega) a ha j _ (hR _)).mono ?_
    rintro _ _ ⟨⟨row,rfl,g1⟩,a,ha,rfl⟩
    have g1':=g1
    cases g1 with
    | mk o1 t1 m1 n1 ks1 q1 z1 =>
    try simp only [AY,go_sem,↓reduceIte,wd,hbq]
    exact ⟨⟨_,rfl,.mk _ _ _ _ _ (by simp) (by intro x hx;rw [List.mem_singleton.1 hx];exact g1')⟩,a,ha,rfl⟩
   ·simp only [AY,go_sem,↓reduceIte,c0,c3,c4,wd]
    refine (AJ C l hl a ha _ _).mono ?_
    rintro _ _ ⟨k2,rfl,hk2,a,ha,rfl⟩
    try simp only [AY,go_sem,↓reduceIte,c0,c3,c4,wd]
    refine (ih (by omega) a ha j _ (hR _)).mono ?_
    rintro _ _ ⟨⟨row,rfl,g1⟩,a,ha,rfl⟩
    have g1':=g1
    cases g1 with
    | mk o1 t1 m1 n1 ks1 q1 z1 =>
    try simp only [AY,go_sem,↓reduceIte,wd,hbq]
    refine ⟨?_,?_⟩
    ·obtain ⟨y0,r',hr',hr2⟩:=A72 (args:=[.p 1 0 0 0,vHp vals nl,.sl (j+1+1) rg.length 0 rg.length,.i .i64 ((d - 1:Nat):Int)]) x0 (MO l a) (r++[some { ty:=Po,esz:=0,ver:=0,nl:=false,rows:=[[.i .i64 0,.i .i64 0,.s (bs []),.i .i64 0,.nl]] },some { ty:=Po,esz:=0,ver:=0,nl:=false,rows:=[[.i .i64 o1,.i .i64 t1,.s m1,.i .i64 n1,.ls ks1]] }]) j rfl (by simp [QJ])
     rw [hr']
     exact (ih (by omega) a ha j _ (hr2.trans (hR _))).to2
    refine (ih (by omega) a ha j _ (hR _)).mono ?_
    rintro _ _ ⟨⟨row,rfl,g2⟩,a,ha,rfl⟩
    have g2':=g2
    cases g2 with
    | mk o2 t2 m2 n2 ks2 q2 z2 =>
    try simp only [AY,go_sem,↓reduceIte,wd,hbq]
    exact ⟨⟨_,rfl,.mk _ _ _ _ _ (by simp) (by intro x hx;rcases List.mem_cons.1 hx with rfl | hx;exact g1';rw [List.mem_singleton.1 hx];exact g2')⟩,a,ha,rfl⟩
  ·simp only [AY,go_sem,↓reduceIte,c0,c3]
   refine (AJ C l hl a ha _ _).mono ?_
   rintro _ _ ⟨t,rfl,ht,a,ha,rfl⟩
   have ht:t < rg.length:=by have:=ht (by omega);omega
   have hrt:=JV ht
   have ht':(t:Int) < rg.length:=by omega
   by_cases k0:(0:Int) < k
   ·by_cases z:(0:Int) < (rg.getD t []).length
    ·try simp only [AY,go_sem,↓reduceIte,k0,hR,hrt,DP,hix,ht',z,List.length_map,List.getElem?_map]
     refine ⟨by rw [(Ek x0 (MO l a) _ rfl).choose_spec];exact (AJ C l hl a ha _ _).to2,?_⟩
     refine (AJ C l hl a ha _ _).mono ?_
     rintro _ _ ⟨q,rfl,hq,a,ha,rfl⟩
     have hq:q < (rg.getD t []).length:=by have:=hq (by omega);omega
     try simp only [AY,go_sem,↓reduceIte,k0,hR,hrt,DP,hix,ht',z,List.length_map,List.getElem?_map,NO hq]
     refine ⟨by rw [(Ek x0 (MO l a) _ rfl).choose_spec];exact (AJ C l hl a ha _ _).to2,?_⟩
     refine (AJ C l hl a ha _ _).mono ?_
     rintro _ _ ⟨n,rfl,hn,a,ha,rfl⟩
     try simp only [AY,go_sem,↓reduceIte,k0,hR,hrt,DP,hix,ht',z,List.length_map,List.getElem?_map,NO hq]
     exact ⟨⟨_,rfl,.mk _ _ _ _ _ (by simp) (by simp)⟩,a,ha,rfl⟩
    ·try simp only [AY,go_sem,↓reduceIte,k0,hR,hrt,DP,hix,ht',z,List.length_map,List.getElem?_map]
     refine (AJ C l hl a ha _ _).mono ?_
     rintro _ _ ⟨i,rfl,hi,a,ha,rfl⟩
     have hi:i < 4:=by have:=hi (by omega);omega
     try simp only [AY,go_sem,↓reduceIte,Ho C i hi]
     refine (AJ C l hl a ha _ _).mono ?_
     rintro _ _ ⟨n,rfl,hn,a,ha,rfl⟩
     try simp only [AY,go_sem,↓reduceIte,Ho C i hi]
     exact ⟨⟨_,rfl,.mk _ _ _ _ _ (by simp) (by simp)⟩,a,ha,rfl⟩
   ·try simp only [AY,go_sem,↓reduceIte,k0]
    refine (AJ C l hl a ha _ _).mono ?_
    rintro _ _ ⟨i,rfl,hi,a,ha,rfl⟩
    have hi:i < 4:=by have:=hi (by omega);omega
    try simp only [AY,go_sem,↓reduceIte,Ho C i hi]
    refine (AJ C l hl a ha _ _).mono ?_
    rintro _ _ ⟨n,rfl,hn,a,ha,rfl⟩
    try simp only [AY,go_sem,↓reduceIte,Ho C i hi]
    exact ⟨⟨_,rfl,.mk _ _ _ _ _ (by simp) (by simp)⟩,a,ha,rfl⟩
 ·simp only [AY,go_sem,↓reduceIte,c0]
  refine (AJ C l hl a ha _ _).mono ?_
  rintro _ _ ⟨t,rfl,ht,a,ha,rfl⟩
  have ht:t < rg.length:=by have:=ht (by omega);omega
  have hrt:=JV ht
  have ht':(t:Int) < rg.length:=by omega
  by_cases k0:(0:Int) < k
  ·by_cases z:(0:Int) < (rg.getD t []).length
   ·try simp only [AY,go_sem,↓reduceIte,k0,hR,hrt,DP,hix,ht',z,List.length_map,List.getElem?_map]
    refine ⟨by rw [(Ek x0 (MO l a) _ rfl).choose_spec];exact (AJ C l hl a ha _ _).to2,?_⟩
    refine (AJ C l hl a ha _ _).mono ?_
    rintro _ _ ⟨q,rfl,hq,a,ha,rfl⟩
    have hq:q < (rg.getD t []).length:=by have:=hq (by omega);omega
    try simp only [AY,go_sem,↓reduceIte,k0,hR,hrt,DP,hix,ht',z,List.length_map,List.getElem?_map,NO hq]
    refine ⟨by rw [(Ek x0 (MO l a) _ rfl).choose_spec];exact (AJ C l hl a ha _ _).to2,?_⟩
    refine (AJ C l hl a ha _ _).mono ?_
    rintro _ _ ⟨n,rfl,hn,a,ha,rfl⟩
    try simp only [AY,go_sem,↓reduceIte,k0,hR,hrt,DP,hix,ht',z,List.length_map,List.getElem?_map,NO hq]
    exact ⟨⟨_,rfl,.mk _ _ _ _ _ (by simp) (by simp)⟩,a,ha,rfl⟩
   ·try simp only [AY,go_sem,↓reduceIte,k0,hR,hrt,DP,hix,ht',z,List.length_map,List.getElem?_map]
    refine (AJ C l hl a ha _ _).mono ?_
    rintro _ _ ⟨i,rfl,hi,a,ha,rfl⟩
    have hi:i < 4:=by have:=hi (by omega);omega
    try simp only [AY,go_sem,↓reduceIte,Ho C i hi]
    refine (AJ C l hl a ha _ _).mono ?_
    rintro _ _ ⟨n,rfl,hn,a,ha,rfl⟩
    try simp only [AY,go_sem,↓reduceIte,Ho C i hi]
    exact ⟨⟨_,rfl,.mk _ _ _ _ _ (by simp) (by simp)⟩,a,ha,rfl⟩
  ·try simp only [AY,go_sem,↓reduceIte,k0]
   refine (AJ C l hl a ha _ _).mono ?_
   rintro _ _ ⟨i,rfl,hi,a,ha,rfl⟩
   have hi:i < 4:=by have:=hi (by omega);omega
   try simp only [AY,go_sem,↓reduceIte,Ho C i hi]
   refine (AJ C l hl a ha _ _).mono ?_
   rintro _ _ ⟨n,rfl,hn,a,ha,rfl⟩
   try simp only [AY,go_sem,↓reduceIte,Ho C i hi]
   exact ⟨⟨_,rfl,.mk _ _ _ _ _ (by simp) (by simp)⟩,a,ha,rfl⟩
theorem A9Y (l:List U8) (hl:l.length≤1000∧∀ x∈l,x.n < 256) (vals:Int) (hv:1≤vals∧vals≤4) (nl:Nat) (hnl:1≤nl∧nl≤4) (rg:List (List ByteArray)) (hrg:1≤rg.length∧rg.length≤4) (d:Nat):d≤10→∀ (a:Nat) (ha:a≤l.length) (j:Nat) (r:VH) (hR:r[j]? = some (some (AN Bu 1 (rg.map Js)))) {x0:Option VO},
      GT V Jd [.p 1 0 0 0,vHp vals nl,.sl (j+1+1) rg.length 0 rg.length,.i .i64 d] (x0::MO l a::r) fun v h=>Acg v∧MS x0 l r h:=by
  induction d with
  | zero=>exact fun _=>L0 C l hl vals hv nl hnl rg hrg 0 (by omega) (fun h=>absurd h (by omega))
  | succ d ih=>exact fun _=>L0 C l hl vals hv nl hnl rg hrg (d+1) (by omega) (fun _=>ih (by omega))
end
abbrev oPz:Option VO:=some ⟨Pp,0,0,false,[[.s (bs []),.i .i64 0,.nl,.nl,.i .i64 0,.i .i64 0,.i .i64 0,.s (bs []),.i .i64 0,.nl]]⟩
abbrev oPr (n:Nat) (vals ask:Int) (vi vt:Nat):Option VO:=some ⟨Pp,0,0,false,[[.s (bs [109,97,100,101]),.i .i64 vals,.sl (n+2+1+1) vi 0 vi,.sl (n+2+1+1+1) vt 0 vt,.i .i64 ask,.i .i64 0,.i .i64 0,.s (bs []),.i .i64 0,.sl (n+2+1+1+1+1) 0 0 0]]⟩
def LI (x0:Option VO) (l:List U8) (vals ask:Int) (r:VH) (k:Nat) (h:VH):Prop:=∃ (a:Nat) (ini:List (ByteArray×Int)),a≤l.length∧ini.length=k∧ini.map (·.1)=Hf k∧(∀ x∈ini,0≤x.2∧x.2 < vals) ∧
 h=x0::MO l a::(r++[oPz,oPr r.length vals ask k 0,some (AN Pn 2 (ini.map eCl)),some LE,some LE])
def TI (x0:Option VO) (l:List U8) (L:List ByteArray) (vals ask:Int) (nl:Nat) (ini:List (ByteArray×Int)) (r:VH) (k:Nat) (h:VH):Prop:=∃ (a:Nat) (thr:List (List (List VV))) (rg:List (List ByteArray)),a≤l.length∧thr.length=k∧rg.length=k∧(∀ l∈thr,l.length≤10∧∀ s∈l,GS L s)∧(∀ l∈rg,l.length≤4) ∧
 h=x0::MO l a::(r++[oPz,oPr r.length vals ask nl k,some (AN Pn 2 (ini.map eCl)),some (AN SU 1 (thr.map fun l=>[.ls l])),some LE,some (AN Bu 1 (rg.map Js))])
theorem A3w {nl:Nat} (x:ByteArray) (h:x∈Hf nl):x.size≤1000:=by
 obtain ⟨k,_,rfl⟩:=List.mem_map.1 h
 rcases k with _ | _ | _ | k<;>(show (1:Nat)≤1000;decide)
theorem A8y (nl:Nat) (h:nl≤4):(Hf nl).Nodup:=by
 rcases (show nl=0∨nl=1∨nl=2∨nl=3∨nl=4 by omega) with rfl | rfl | rfl | rfl | rfl<;>decide
theorem A3x (k:Nat):Hf (k+1)=Hf k++[SR k]:=by unfold Hf;rw [List.range_succ,List.map_append];rfl
section
variable {V:Al} (C:AA V) {Q:VV→Prop}
include C
set_option maxHeartbeats 8000000 in
theorem U6 (l:List U8) (hl:l.length≤1000∧∀ x∈l,x.n < 256) (vals:Int) (hv:2≤vals∧vals≤4) (nl:Nat) (hnl:1≤nl∧nl≤4) (th most deep:Nat) (ht:1≤th∧th≤4) (hm:most≤9) (hd:deep≤9) (a:Nat) (ha:a≤l.length) (r:VH) {x0:Option VO} :
  GT V Lz [.p 1 0 0 0,vHp vals nl,.i .i64 th,.i .i64 most,.i .i64 deep] (x0::MO l a::r) fun v h=>(∃ p:PP,v=p.v∧GP2 p)∧MS x0 l r h:=by
 rw [Ct C.h_z101]
 simp only [PF,BM,go_sem,↓reduceIte]
 refine (AJ C l hl a ha _ _).mono ?_
 rintro _ _ ⟨k,rfl,hk,a,ha,rfl⟩
 simp only [BM,go_sem,↓reduceIte,Az,W3,Ce]
 generalize IntKind.i64.wrap (1 + ↑k)=ask
 refine A8 (by decide) nl (by omega) (I:=fun k F h=>LI x0 l vals ask r k h∧A3.tmp F 0 = .p 1 0 0 0∧A3.tmp F 2 = .i .i64 th∧A3.tmp F 3 = .i .i64 most∧A3.tmp F 4 = .i .i64 deep∧A3.tmp F 6=fHp vals nl∧A3.tmp F 10 = .p (r.length+1+1) 0 0 0∧A3.tmp F 11 = .p (r.length+1+1+1) 0 0 0) ?_ ?_ ?_ 0 _ _ (Nat.zero_le _) ?_ ?_
 ·rintro k F h hk p12 ⟨h1,p0,p2,p3,p4,p6,p10,p11⟩
  simp only [BM,go_sem,↓reduceIte,p12,p0,p2,p3,p4,p6,p10,p11]
  exact h1
 ·rintro k F h hk p12 ⟨⟨a,ini,ha,hil,him,hiv,rfl⟩,p0,p2,p3,p4,p6,p10,p11⟩
  have b1:(ini.length+1) * 24≤A6:=by unfold A6;omega
  subst hil
  simp only [A1N,BM,go_sem,↓reduceIte,p12,p0,p2,p3,p4,p6,p10,p11,Ho C ini.length (by omega),W3,Ce,A0]
  refine (AJ C l hl a ha _ _).mono ?_
  rintro _ _ ⟨k1,rfl,hk1,a,ha,rfl⟩
  try simp only [BM,go_sem,↓reduceIte,p12,p0,p2,p3,p4,p6,p10,p11,W3,Ce]
  refine (AJ C l hl a ha _ _).mono ?_
  rintro _ _ ⟨k2,rfl,hk2,a,ha,rfl⟩
  have hk1:=hk1 (by omega)
  have w1:IntKind.i64.wrap (1+(k2:Int))=1+(k2:Int):=AG (by omega) (by have:=hk2 (by omega);omega)
  have hq1:((k1:Int)).tmod (1+(k2:Int))=((k1 % (1+k2):Nat):Int):=by rw [Int.tmod_eq_emod_of_nonneg (by omega),Int.natCast_emod,Int.natCast_add];rfl
  have hq2:=Nat.mod_le k1 (1+k2)
  try simp only [BM,go_sem,↓reduceIte,p12,p0,p2,p3,p4,p6,p10,p11,W3,Ce,w1,EE (show 1+(k2:Int)≠0 by omega),hq1,b1]
  refine ⟨.inr ?_,⟨a,ini++[(SR ini.length,((k1 % (1+k2):Nat):Int))],ha,by simp,by rw [List.map_append,him,A3x];rfl,?_,?_⟩,?_⟩
  ·rw [List.all_eq_true]
   intro x hx
   rcases List.mem_append.1 hx with hx | hx
   ·obtain ⟨y,_,rfl⟩:=List.mem_map.1 hx;rfl
   ·rw [List.mem_singleton.1 hx];rfl
  ·intro x hx
   rcases List.mem_append.1 hx with hx | hx
   ·exact hiv x hx
   ·rw [List.mem_singleton.1 hx];exact ⟨by show (0:Int)≤_;omega,by show _ < vals;omega⟩
  ·rw [← HO,List.map_append];rfl
  ·rw [show decide (List.length r+1+1 < List.length r+5+1+1)=true by rw [decide_eq_true_iff];omega];rfl
 ·rintro F h ⟨⟨a,ini,ha,hil,him,hiv,rfl⟩,p0,p2,p3,p4,p6,p10,p11⟩
  simp only [BM,go_sem,↓reduceIte,p0,p2,p3,p4,p6,p10,p11]
  refine A8 (by decide) th (by omega) (I:=fun k F h=>TI x0 l (Hf nl) vals ask nl ini r k h∧A3.tmp F 0 = .p 1 0 0 0∧A3.tmp F 2 = .i .i64 th∧A3.tmp F 3 = .i .i64 most∧A3.tmp F 4 = .i .i64 deep∧A3.tmp F 6=fHp vals nl∧A3.tmp F 10 = .p (r.length+1+1) 0 0 0∧A3.tmp F 11 = .p (r.length+1+1+1) 0 0 0∧A3.tmp F 13 = .sl (r.length+5+1+1) k 0 k) ?_ ?_ ?_ 0 _ _ (Nat.zero_le _) ?_ ?_
  ·rintro k F h hk p14 ⟨h1,p0,p2,p3,p4,p6,p10,p11,p13⟩
   simp only [BM,go_sem,↓reduceIte,p14,p0,p2,p3,p4,p6,p10,p11,p13]
   exact h1
  ·rintro k F h hk p14 ⟨⟨a,thr,rg,ha,htl,hrl,hth,hrg,rfl⟩,p0,p2,p3,p4,p6,p10,p11,p13⟩
   have b1:(thr.length+1) * 24≤A6:=by unfold A6;omega
   have b2:(rg.length+1) * 24≤A6:=by unfold A6;omega
   have w1:=GL (show most < 9223372036854775807 by omega)
   subst htl
   simp only [A1Q,BM,go_sem,↓reduceIte,p14,p0,p2,p3,p4,p6,p10,p11,p13,w1,W3,Ce,A0]
   refine (AJ C l hl a ha _ _).mono ?_
   rintro _ _ ⟨k1,rfl,hk1,a,ha,rfl⟩
   have hk1:k1 < most+1:=by have:=hk1 (by omega);omega
   try simp only [BM,go_sem,↓reduceIte,p14,p0,p2,p3,p4,p6,p10,p11,p13,W3,Ce]
   refine (A78 C l hl vals (by omega) nl hnl deep (by omega) k1 (by omega) a ha _ KR.nil _).mono ?_
   rintro _ _ ⟨⟨rows,g,rfl,hrw,hgs,nm,hn1,hn2,rfl⟩,a,ha,rfl⟩
   try simp only [BM,go_sem,↓reduceIte,p14,p0,p2,p3,p4,p6,p10,p11,p13,W3,Ce,b1,b2,hrl]
   have d1:decide (List.length r+1+1 < List.length r+6+1+1)=true:=by rw [decide_eq_true_iff];omega
   have d2:decide (List.length r+1+1+1 < List.length r+6+1+1)=true:=by rw [decide_eq_true_iff];omega
   have d3:decide (List.length r+5+1+1 < List.length r+6+1+1)=true:=by rw [decide_eq_true_iff];omega
   refine ⟨.inr ?_,.inr ?_,⟨a,thr++[rows],rg++[nm],ha,by simp,by simp [hrl],?_,?_,?_⟩,?_⟩
   ·rw [List.all_eq_true]
    intro x hx
    rcases List.mem_append.1 hx with hx | hx
    ·obtain ⟨y,_,rfl⟩:=List.mem_map.1 hx;rfl
    ·rw [List.mem_singleton.1 hx];rfl
   ·rw [List.all_eq_true]
    intro x hx
    rcases List.mem_append.1 hx with hx | hx
    ·obtain ⟨y,_,rfl⟩:=List.mem_map.1 hx;rfl
    ·rw [List.mem_singleton.1 hx];rfl
   ·intro x hx
    rcases List.mem_append.1 hx with hx | hx
    ·exact hth x hx
    ·rw [List.mem_singleton.1 hx];exact ⟨by omega,hgs⟩
   ·intro x hx
    rcases List.mem_append.1 hx with hx | hx
    ·exact hrg x hx
    ·rw [List.mem_singleton.1 hx];exact N6 hn1 hn2
   ·rw [← HO,← HO,List.map_append,List.map_append,hrl];rfl
   ·simp only [d1,d2,d3,go_sem,MB,bel]
  ·rintro F h ⟨⟨a,thr,rg,ha,htl,hrl,hth,hrg,rfl⟩,p0,p2,p3,p4,p6,p10,p11,p13⟩
   subst hrl
   try simp only [BM,go_sem,↓reduceIte,p0,p2,p3,p4,p6,p10,p11,p13]
   refine (A9Y C l hl vals (by omega) nl hnl rg (by omega) 2 (by omega) a ha (r.length+5) _ (by rw [Ajs];rfl)).mono ?_
   rintro _ _ ⟨⟨row,rfl,g1⟩,a,ha,rfl⟩
   have g1':=g1
   cases g1 with
   | mk o1 t1 m1 n1 ks1 q1 z1 =>
   have f1:∀ (hh:VH) (d:Nat),B5 (fun row=>B5 (frz hh (d+1)) row) (ini.map eCl)=some (ini.map eCl,[]):=fun hh d=>KF fun x hx=>by obtain ⟨y,_,rfl⟩:=List.mem_map.1 hx;rfl
   have f2:∀ (hh:VH) (d:Nat),B5 (fun row=>B5 (frz hh (d+1)) row) (thr.map fun l=>[VV.ls l])=some (thr.map fun l=>[VV.ls l],[]):=fun hh d=>KF fun x hx=>by obtain ⟨y,_,rfl⟩:=List.mem_map.1 hx;rfl
   try simp only [BM,go_sem,↓reduceIte,p0,p2,p3,p4,p6,p10,p11,p13,f1,f2,hil,htl]
   refine ⟨⟨⟨bs [109,97,100,101],vals,ini,thr,ask,o1,t1,m1,n1,ks1⟩,by rw [List.take_of_length_le (by omega),List.take_of_length_le (by omega)],?_⟩,a,ha,rfl⟩
   refine ⟨⟨by show (4:Nat)≤1000;decide,by show ini.length≤1000;omega,fun x hx=>?_,by show thr.length≤1000;omega,fun x hx=>?_,g1'⟩,hv.1,hv.2,by show ini.length≤4;omega,by show (ini.map (·.1)).Nodup;rw [him];exact A8y _ hnl.2,hiv,by show 1≤thr.length;omega,by show thr.length≤4;omega⟩
   ·have:x.1∈Hf nl:=him ▸ List.mem_map.2 ⟨x,hx,rfl⟩
    exact A3w _ this
   ·have:=hth x hx
    exact ⟨by omega,by show ∀ s∈x,GS (ini.map (·.1)) s;rw [him];exact this.2⟩
  ·simp only [BM,go_sem,↓reduceIte,p0,p2,p3,p4,p6,p10,p11]
  ·simp only [BM,go_sem,↓reduceIte,p0,p2,p3,p4,p6,p10,p11]
   exact ⟨a,[],[],ha,rfl,rfl,by simp,by simp,rfl⟩
 ·simp only [BM,go_sem,↓reduceIte]
 ·simp only [BM,go_sem,↓reduceIte]
  exact ⟨a,[],ha,rfl,rfl,by simp,rfl⟩
def isP (v:VV):Prop:=∃ p:PP,v=p.v∧GP2 p
theorem A77 (l:List U8) (hl:l.length≤1000∧∀ x∈l,x.n < 256) (vals:Int) (hv:2≤vals∧vals≤4) (nl:Nat) (hnl:1≤nl∧nl≤4) (a:Nat) (ha:a≤l.length) (r:VH) {x0:Option VO} :
  GT V A2t [.p 1 0 0 0,vHp vals nl] (x0::MO l a::r) fun v h=>isP v∧MS x0 l r h:=by
 rw [Ct C.h_z55]
 simp only [A64,Hi,go_sem,↓reduceIte]
 refine (AJ C l hl a ha _ _).mono ?_
 rintro _ _ ⟨k,rfl,hk,a,ha,rfl⟩
 by_cases k0:(k:Int)=0
 ·simp only [Hi,go_sem,↓reduceIte,k0,A0]
  refine (U6 C l hl vals hv nl hnl 1 3 1 (by omega) (by omega) (by omega) a ha _).mono ?_
  rintro _ _ ⟨⟨p,rfl,hp⟩,a,ha,rfl⟩
  try simp only [Hi,go_sem,↓reduceIte,k0,A0]
  exact ⟨⟨p,rfl,hp⟩,a,ha,rfl⟩
 by_cases k1:(k:Int)=1
 ·simp only [Hi,go_sem,↓reduceIte,k0,k1,A0]
  refine (U6 C l hl vals hv nl hnl 3 1 0 (by omega) (by omega) (by omega) a ha _).mono ?_
  rintro _ _ ⟨⟨p,rfl,hp⟩,a,ha,rfl⟩
  try simp only [Hi,go_sem,↓reduceIte,k0,A0]
  exact ⟨⟨p,rfl,hp⟩,a,ha,rfl⟩
 ·simp only [Hi,go_sem,↓reduceIte,k0,k1,A0]
  refine (U6 C l hl vals hv nl hnl 2 2 1 (by omega) (by omega) (by omega) a ha _).mono ?_
  rintro _ _ ⟨⟨p,rfl,hp⟩,a,ha,rfl⟩
  try simp only [Hi,go_sem,↓reduceIte,k0,A0]
  exact ⟨⟨p,rfl,hp⟩,a,ha,rfl⟩
theorem A76 (l:List U8) (hl:l.length≤1000∧∀ x∈l,x.n < 256) (a:Nat) (ha:a≤l.length) (r:VH) {x0:Option VO} :
  GT V A2b [.p 1 0 0 0] (x0::MO l a::r) fun v h=>isP v∧MS x0 l r h:=by
 rw [Ct C.h_z20]
 simp only [A5P,MK,go_sem,↓reduceIte]
 refine (AJ C l hl a ha _ _).mono ?_
 rintro _ _ ⟨k,rfl,hk,a,ha,rfl⟩
 have w1:IntKind.i64.wrap (1+(k:Int))=((1+k:Nat):Int):=by rw [AG (by omega) (by have:=hk (by omega);omega)];omega
 simp only [MK,go_sem,↓reduceIte,w1]
 refine (A77 C l hl 2 (by omega) (1+k) (by have:=hk (by omega);omega) a ha _).mono ?_
 rintro _ _ ⟨⟨p,rfl,hp⟩,a,ha,rfl⟩
 try simp only [MK,go_sem,↓reduceIte]
 exact ⟨⟨p,rfl,hp⟩,a,ha,rfl⟩
theorem A9W (l:List U8) (x0:Option VO) {Q:VV→VH→Prop} (hq:Q (.p 1 0 0 0) [x0,MO l 0]):LT V NF [lU l] [x0] Q:=by
 rw [Gd C.h_z19]
 simp only [RU,Q0,go_sem,↓reduceIte]
 exact hq
theorem A9X (v:VV) (h:isP v):VP V A29 [v] fun x=>∃ (t:A4) (e:Bool),x = .tu [vT t,.b e]∧(e=true→Aa t):=by
 obtain ⟨p,rfl,hp⟩:=h
 rw [Ab C.c_z16.1 C.c_z16.2]
 obtain ⟨_,⟨t,e,rfl,ht⟩,qb⟩:=Di (Rn C p hp)
 simp only [A5M,A1S,go_sem,↓reduceIte,qb]
 exact ⟨t,_,rfl,fun h=>ht (by simpa using h)⟩
theorem U5 (l:List U8) (hl:l.length≤1000∧∀ x∈l,x.n < 256):VP V Aa2 [lU l] fun x=>∃ (t:A4) (e:Bool),x = .tu [vT t,.b e]∧(e=true→Aa t∧t.nodes.length≤30):=by
 rw [Ab C.c_z2.1 C.c_z2.2]
 simp only [Ac6,A49,go_sem,↓reduceIte]
 refine A9W C l _ ?_
 refine (A76 C l hl 0 (by omega) []).mono ?_
 rintro _ _ ⟨⟨p,rfl,hp⟩,a,ha,rfl⟩
 obtain ⟨_,⟨t,e,rfl,ht⟩,qt⟩:=Di (A9X C p.v ⟨p,rfl,hp⟩)
 cases e with
 | false =>
  simp only [A49,go_sem,↓reduceIte,qt]
  exact ⟨t,false,rfl,fun h=>absurd h (by simp)⟩
 | true =>
  simp only [A49,go_sem,↓reduceIte,qt]
  refine ⟨t,_,rfl,fun h=>⟨ht rfl,?_⟩⟩
  have:=of_decide_eq_true h
  omega
end
theorem XI {t:A4} {l:List Int} (h:EJ t l=true):∀ n∈l,BT t n=true:=by
 intro n hn
 obtain ⟨k,hk,rfl⟩:=List.mem_iff_getElem.1 hn
 simp only [EJ,Bool.and_eq_true] at h
 have:=Ar.1 h.1 k hk
 simp only [Du,Bool.and_eq_true] at this
 have:=this.1.1
 rw [List.getD_eq_getElem?_getD,List.getElem?_eq_getElem hk] at this
 exact this
theorem Sz {p:Nat→Bool} {k:Nat} (h:∀ j,j < k→p j=true) (hk:p k=true):∀ j,j < k+1→p j=true:=by
 intro j hj
 by_cases e:j=k
 ·subst e;exact hk
 ·exact h j (by omega)
theorem Kw {t:A4} {s:Am} (h:EJ t s.has=true→s.jf.length=s.has.length→s.mo.length=t.locs.length→(List.range s.has.length).all (M9 t s)=true→(List.range s.mo.length).all (Gx t s)=true→(List.range s.has.length).all (NG t s)=true→False):false=Ck t s:=by
 rw [eq_comm,← Bool.not_eq_true]
 intro e
 simp only [Ck,Bool.and_eq_true,decide_eq_true_eq] at e
 exact h e.1.1.1.1.1 e.1.1.1.1.2 e.1.1.1.2 e.1.1.2 e.1.2 e.2
section
variable {V:Al} (C:AA V) {Q:VV→Prop}
include C
set_option maxHeartbeats 4000000 in
theorem G2 (t:A4) (ht:Aa t) (s:Am) (hs:Wg s):VP V A28 [vT t,QZ s] Q↔Q (.b (Ck t s)):=by
 refine Ae ?_
 rw [Ab C.c_z12.1 C.c_z12.2]
 have hu:=ht.up
 have hn:=ht.n64
 have hh:=hs.has
 have hj:=hs.jf
 have hmo:=hs.mo
 have s1:=fun (Q:VV→Prop)=>Rw C t (by omega) s.has (by omega) (Q:=Q)
 cases c1:EJ t s.has with
 | false =>
  simp only [RT,Be,go_sem,↓reduceIte,s1,c1]
  exact Kw fun h _ _ _ _ _=>by rw [c1] at h;cases h
 | true =>
 have hnode:=XI c1
 by_cases c2:¬ s.jf.length=s.has.length
 ·have c2':¬ (s.jf.length:Int)=s.has.length:=by omega
  simp only [RT,Be,go_sem,↓reduceIte,s1,c1,c2']
  exact Kw fun _ h _ _ _ _=>c2 h
 have c2:=Decidable.not_not.1 c2
 have c2':(s.jf.length:Int)=s.has.length:=by omega
 by_cases c3:¬ s.mo.length=t.locs.length
 ·have c3':¬ (s.mo.length:Int)=t.locs.length:=by omega
  simp only [RT,Be,go_sem,↓reduceIte,s1,c1,c2',c3']
  exact Kw fun _ _ h _ _ _=>c3 h
 have c3:=Decidable.not_not.1 c3
 have c3':(s.mo.length:Int)=t.locs.length:=by omega
 simp only [RT,Be,go_sem,↓reduceIte,s1,c1,c2',c3']
 refine A8 (by decide) s.has.length (by omega) (I:=fun k F h=>h=[]∧A3.tmp F 2 = .fp (eT t) 0∧A3.tmp F 3 = .fp (eSh s) 0∧∀ j,j < k→M9 t s j=true) ?_ ?_ ?_ 0 _ _ (Nat.zero_le _) ?_ ?_
 ·rintro k F h hk p5 ⟨rfl,p2,p3,p4⟩
  simp only [Be,go_sem,↓reduceIte,p5,p2,p3]
  exact p4
 ·rintro k F h hk p5 ⟨rfl,p2,p3,p4⟩
  have hkj:k < s.jf.length:=by omega
  obtain ⟨n,hn1,hn2⟩:=A9 (hnode _ (Aj (d:=0) hk))
  have bad:M9 t s k=false→false=Ck t s:=fun h=>Kw fun _ _ _ h1 _ _=>by rw [AR hk h] at h1;cases h1
  have hok:M9 t s k=if (t.at n).kind=2 then B2 s.has (s.jf.getD k 0) && Ll t (s.jf.getD k 0) (t.at n).loc && decide ((t.at (s.jf.getD k 0).toNat).val=(t.at n).val) else decide (s.jf.getD k 0 = -1):=by
   unfold M9;rw [hn1,Int.toNat_natCast]
  by_cases k2:(t.at n).kind=2
  ·rw [if_pos k2] at hok
   cases w1:B2 s.has (s.jf.getD k 0) with
   | false =>
    simp only [Be,go_sem,↓reduceIte,p5,p2,p3,Av hk,Av hkj,hn1,A5 hn2,k2,Ac C s.has (by omega),C3,w1,A0]
    exact bad (by rw [hok,w1];rfl)
   | true =>
   obtain ⟨m,hm1,hm2⟩:=A9 (hnode _ (A7.1 w1))
   have hok2:M9 t s k=(decide ((t.at m).kind=3) && decide ((t.at m).loc=(t.at n).loc) && decide ((t.at m).val=(t.at n).val)):=by
    rw [hok,w1];unfold Ll;rw [hm1,Int.toNat_natCast,Bool.true_and]
   rw [hm1] at w1
   cases x1:decide ((t.at m).kind=3) with
   | false =>
    simp only [Be,go_sem,↓reduceIte,p5,p2,p3,Av hk,Av hkj,hn1,hm1,A5 hn2,A5 hm2,k2,Ac C s.has (by omega),C3,w1,x1,A0]
    exact bad (by rw [hok2,x1];rfl)
   | true =>
   cases x2:decide ((t.at m).loc=(t.at n).loc) with
   | false =>
    simp only [Be,go_sem,↓reduceIte,p5,p2,p3,Av hk,Av hkj,hn1,hm1,A5 hn2,A5 hm2,k2,Ac C s.has (by omega),C3,w1,x1,x2,A0]
    exact bad (by rw [hok2,x1,x2];rfl)
   | true =>
   cases x3:decide ((t.at m).val=(t.at n).val) with
   | false =>
    simp only [Be,go_sem,↓reduceIte,p5,p2,p3,Av hk,Av hkj,hn1,hm1,A5 hn2,A5 hm2,k2,Ac C s.has (by omega),C3,w1,x1,x2,x3,A0]
    exact bad (by rw [hok2,x1,x2,x3];rfl)
   | true =>
    simp only [Be,go_sem,↓reduceIte,p5,p2,p3,Av hk,Av hkj,hn1,hm1,A5 hn2,A5 hm2,k2,Ac C s.has (by omega),C3,w1,x1,x2,x3,A0]
    exact Sz p4 (by rw [hok2,x1,x2,x3];rfl)
  ·rw [if_neg k2] at hok
   cases w1:decide (s.jf.getD k 0 = -1) with
   | false =>
    simp only [Be,go_sem,↓reduceIte,p5,p2,p3,Av hk,Av hkj,hn1,A5 hn2,k2,w1,A0]
    exact bad (by rw [hok,w1])
   | true =>
    simp only [Be,go_sem,↓reduceIte,p5,p2,p3,Av hk,Av hkj,hn1,A5 hn2,k2,w1,A0]
    exact Sz p4 (by rw [hok,w1])
 ·rintro F h ⟨rfl,p2,p3,p4⟩
  have f1:=AO p4
  simp only [Be,go_sem,↓reduceIte,p2,p3]
  refine A8 (by decide) s.mo.length (by omega) (I:=fun k F h=>h=[]∧A3.tmp F 2 = .fp (eT t) 0∧A3.tmp F 3 = .fp (eSh s) 0∧∀ j,j < k→Gx t s j=true) ?_ ?_ ?_ 0 _ _ (Nat.zero_le _) ?_ ?_
  ·rintro k F h hk p8 ⟨rfl,p2,p3,p4⟩
   simp only [Be,go_sem,↓reduceIte,p8,p2,p3]
   exact p4
  ·rintro k F h hk p8 ⟨rfl,p2,p3,p4⟩
   have hml:=hs.mi' k
   have bad:Gx t s k=false→false=Ck t s:=fun h=>Kw fun _ _ _ _ h1 _=>by rw [AR hk h] at h1;cases h1
   by_cases z:(s.mo.getD k []).length=0
   ·have z':((s.mo.getD k []).length:Int)=0:=by omega
    simp only [Be,go_sem,↓reduceIte,p8,p2,p3,Dk hk,z',A0]
    exact bad (by simp only [Gx,z];simp)
   have z':¬ ((s.mo.getD k []).length:Int)=0:=by omega
   have z0:0 < (s.mo.getD k []).length:=by omega
   by_cases z1:¬ ((s.mo.getD k []).getD 0 []).length=1
   ·have z1':¬ (((s.mo.getD k []).getD 0 []).length:Int)=1:=by omega
    simp only [Be,go_sem,↓reduceIte,p8,p2,p3,Dk hk,z',Gm z0,z1',A0]
    have:decide ((s.mo.getD k []).getD 0 []=[(k:Int)])=false:=decide_eq_false fun e=>z1 (by rw [e];rfl)
    exact bad (by simp only [Gx,this,Bool.and_false,Bool.false_and])
   have z1:=Decidable.not_not.1 z1
   have z1':(((s.mo.getD k []).getD 0 []).length:Int)=1:=by omega
   have z2:0 < ((s.mo.getD k []).getD 0 []).length:=by omega
   cases z3:decide (((s.mo.getD k []).getD 0 []).getD 0 0=k) with
   | false =>
    simp only [Be,go_sem,↓reduceIte,p8,p2,p3,Dk hk,z',Gm z0,z1',Av z2,z3,A0]
    have:decide ((s.mo.getD k []).getD 0 []=[(k:Int)])=false:=decide_eq_false fun e=>by rw [e] at z3;simp at z3
    exact bad (by simp only [Gx,this,Bool.and_false,Bool.false_and])
   | true =>
   have hmd:Gx t s k=(List.range (s.mo.getD k []).length).all fun i=>decide (i=0) || DQ t ((s.mo.getD k []).getD i []) s.has k:=by
    have e1:(s.mo.getD k []).getD 0 []=[(k:Int)]:=by
     have z3:=of_decide_eq_true z3
     generalize (s.mo.getD k []).getD 0 []=c at *
     rcases c with _ | ⟨c0,_ | ⟨c1,c⟩⟩
     ·simp at z1
     ·simpa using z3
     ·simp at z1
    have:decide ((s.mo.getD k []).getD 0 []=[(k:Int)])=true:=decide_eq_true e1
    simp only [Gx,this,z,decide_false,Bool.not_false,Bool.true_and]
   simp only [Be,go_sem,↓reduceIte,p8,p2,p3,Dk hk,z',Gm z0,z1',Av z2,z3,A0]
   refine A8 (by decide) (s.mo.getD k []).length (by omega) (I:=fun i F h=>h=[]∧A3.tmp F 2 = .fp (eT t) 0∧A3.tmp F 3 = .fp (eSh s) 0∧A3.tmp F 8 = .i .i64 k∧1≤i∧∀ j,j < i→(decide (j=0) || DQ t ((s.mo.getD k []).getD j []) s.has k)=true) ?_ ?_ ?_ 1 _ _ (by omega) ?_ ?_
   ·rintro i F h hi q9 ⟨rfl,q2,q3,q8,q1,q4⟩
    simp only [Be,go_sem,↓reduceIte,q9,q2,q3,q8,Dk hk]
    exact ⟨q1,q4⟩
   ·rintro i F h hi q9 ⟨rfl,q2,q3,q8,q1,q4⟩
    have hmc:=hs.mc' k i
    have s2:=fun (Q:VV→Prop)=>Ru C t hu ((s.mo.getD k []).getD i []) s.has (by omega) (by omega) hnode k (Q:=Q)
    cases c4:DQ t ((s.mo.getD k []).getD i []) s.has k with
    | false =>
     simp only [Be,go_sem,↓reduceIte,q9,q2,q3,q8,Dk hk,Gm hi,s2,c4,A0]
     exact bad (by rw [hmd];exact AR hi (by rw [c4,decide_eq_false (by omega)];rfl))
    | true =>
     simp only [Be,go_sem,↓reduceIte,q9,q2,q3,q8,Dk hk,Gm hi,s2,c4,A0]
     exact Sz q4 (by rw [c4];simp)
   ·rintro F h ⟨rfl,q2,q3,q8,q1,q4⟩
    simp only [Be,go_sem,↓reduceIte,q2,q3,q8]
    exact Sz p4 (by rw [hmd];exact AO q4)
   ·simp only [Be,go_sem,↓reduceIte,p2,p3,p8]
   ·simp only [Be,go_sem,↓reduceIte,p2,p3,p8]
    intro j hj
    simp [show j=0 by omega]
  ·rintro F h ⟨rfl,p2,p3,p4⟩
   have f2:=AO p4
   simp only [Be,go_sem,↓reduceIte,p2,p3]
   refine A8 (by decide) s.has.length (by omega) (I:=fun k F h=>h=[]∧A3.tmp F 2 = .fp (eT t) 0∧A3.tmp F 3 = .fp (eSh s) 0∧∀ j,j < k→NG t s j=true) ?_ ?_ ?_ 0 _ _ (Nat.zero_le _) ?_ ?_
   ·rintro k F h hk p10 ⟨rfl,p2,p3,p4⟩
    simp only [Be,go_sem,↓reduceIte,p10,p2,p3]
    exact p4
   ·rintro k F h hk p10 ⟨rfl,p2,p3,p4⟩
    obtain ⟨n,hn1,hn2⟩:=A9 (hnode _ (Aj (d:=0) hk))
    have bad:NG t s k=false→false=Ck t s:=fun h=>Kw fun _ _ _ _ _ h1=>by rw [AR hk h] at h1;cases h1
    have hon:NG t s k=(!decide ((t.at n).kind=3) || decide (((s.mo.getD (t.at n).loc.toNat []).filter fun c=>B2 c (n:Int)).length=1)):=by unfold NG;rw [hn1,Int.toNat_natCast]
    cases k3:decide ((t.at n).kind=3) with
    | false =>
     simp only [Be,go_sem,↓reduceIte,p10,p2,p3,Av hk,hn1,A5 hn2,k3,A0]
     exact Sz p4 (by rw [hon,k3];rfl)
    | true =>
    rw [k3,Bool.not_true,Bool.false_or] at hon
    obtain ⟨l1,l2⟩:=ht.wloc hn2 (.inr (of_decide_eq_true k3))
    obtain ⟨lc,hlc⟩:=Int.eq_ofNat_of_zero_le l1
    have hlk:lc < s.mo.length:=by omega
    rw [hlc,Int.toNat_natCast] at hon
    simp only [Be,go_sem,↓reduceIte,p10,p2,p3,Av hk,hn1,A5 hn2,k3,A0]
    have hml:=hs.mi' lc
    refine A8 (by decide) (s.mo.getD lc []).length (by omega) (I:=fun i F h=>h=[some ⟨BN,0,0,false,[eN (t.at n)]⟩]∧A3.tmp F 2 = .fp (eT t) 0∧A3.tmp F 3 = .fp (eSh s) 0∧A3.tmp F 10 = .i .i64 k∧A3.tmp F 11 = .p 0 0 0 0∧A3.tmp F 12 = .i .i64 ((((s.mo.getD lc []).take i).filter fun c=>B2 c (n:Int)).length:Nat)) ?_ ?_ ?_ 0 _ _ (Nat.zero_le _) ?_ ?_
    ·rintro i F h hi q13 ⟨rfl,q2,q3,q10,q11,q12⟩
     simp only [Be,go_sem,↓reduceIte,q13,q2,q3,q10,q11,q12,hlc,Dk hlk]
    ·rintro i F h hi q13 ⟨rfl,q2,q3,q10,q11,q12⟩
     have hmc:=hs.mc' lc i
     have s2:=fun (Q:VV→Prop)=>Ac C ((s.mo.getD lc []).getD i []) (by omega) (n:Int) (Q:=Q)
     have hst:(s.mo.getD lc []).take (i+1)=(s.mo.getD lc []).take i++[(s.mo.getD lc []).getD i []]:=by
      have e:=List.take_succ_eq_append_getElem hi
      have e2:(s.mo.getD lc []).getD i []=(s.mo.getD lc [])[i]:=by rw [List.getD_eq_getElem?_getD,List.getElem?_eq_getElem hi];rfl
      rw [e2];exact e
     cases c4:B2 ((s.mo.getD lc []).getD i []) (n:Int) with
     | false =>
      simp only [Be,go_sem,↓reduceIte,q13,q2,q3,q10,q11,q12,hlc,Dk hlk,Gm hi,Av hk,hn1,s2,KO,c4,A0]
      have e:[(s.mo.getD lc []).getD i []].filter (fun c=>B2 c (n:Int))=[]:=by rw [List.filter_cons,c4];rfl
      rw [hst,List.filter_append,e,List.append_nil]
     | true =>
      have hle:(((s.mo.getD lc []).take i).filter fun c=>B2 c (n:Int)).length≤1000:=Nat.le_trans (List.length_filter_le _ _) (by rw [List.length_take];omega)
      have w1:=GL (show (((s.mo.getD lc []).take i).filter fun c=>B2 c (n:Int)).length < 9223372036854775807 by omega)
      simp only [Be,go_sem,↓reduceIte,q13,q2,q3,q10,q11,q12,hlc,Dk hlk,Gm hi,Av hk,hn1,s2,KO,c4,w1,A0]
      have e:[(s.mo.getD lc []).getD i []].filter (fun c=>B2 c (n:Int))=[(s.mo.getD lc []).getD i []]:=by rw [List.filter_cons,c4];rfl
      rw [hst,List.filter_append,e,List.length_append];rfl
    ·rintro F h ⟨rfl,q2,q3,q10,q11,q12⟩
     by_cases c5:((s.mo.getD lc []).filter fun c=>B2 c (n:Int)).length=1
     ·simp only [Be,go_sem,↓reduceIte,q2,q3,q10,q11,q12,List.take_length,c5]
      exact Sz p4 (by rw [hon,c5];rfl)
     ·have c5':decide ((((s.mo.getD lc []).filter fun c=>B2 c (n:Int)).length:Int)=1)=false:=decide_eq_false (by omega)
      simp only [Be,go_sem,↓reduceIte,q2,q3,q10,q11,q12,List.take_length,c5']
      exact bad (by rw [hon];exact decide_eq_false c5)
    ·simp only [Be,go_sem,↓reduceIte,p2,p3,p10]
    ·simp only [Be,go_sem,↓reduceIte,p2,p3,p10]
   ·rintro F h ⟨rfl,p2,p3,p4⟩
    have f3:=AO p4
    simp only [Be,go_sem,↓reduceIte,p2,p3]
    unfold Ck
    rw [c1,decide_eq_true c2,decide_eq_true c3,f1,f2,f3];rfl
   ·simp only [Be,go_sem,↓reduceIte,p2,p3]
   ·simp only [Be,go_sem,↓reduceIte,p2,p3]
    intro j hj;omega
  ·simp only [Be,go_sem,↓reduceIte,p2,p3]
  ·simp only [Be,go_sem,↓reduceIte,p2,p3]
   intro j hj;omega
 ·simp only [Be,go_sem,↓reduceIte]
 ·simp only [Be,go_sem,↓reduceIte]
  intro j hj;omega
end
abbrev eD (t:A4):List VV:=[.i .i64 t.vals,lS t.locs,.ls (t.regs.map Js),.ls (t.nodes.map eN),lI (AbN t),lW (AdB t)]
abbrev vD (t:A4):VV:=.ag (eD t)
theorem AkB:min 4 6=4:=rfl
def hD (t:A4) (k:Nat):VH:=[some ⟨Nm,0,0,false,[[.i .i64 0,.nl,.nl,.nl,.nl,.nl]]⟩,
 some ⟨B3,1,0,false,(Co t.nodes.length k (P2 t) 0).map eI⟩,some ⟨Bd,1,0,false,(Co t.nodes.length k (ovr t) 0#64).map eW⟩,
 some ⟨Nm,0,0,false,[[.i .i64 t.vals,lS t.locs,.ls (t.regs.map Js),.ls (t.nodes.map eN),.sl 1 0 0 t.nodes.length,.sl 2 0 0 t.nodes.length]]⟩]
section
variable {V:Al} (C:AA V) {Q:VV→Prop}
include C
set_option maxHeartbeats 1000000 in
theorem A4I (t:A4) (ht:Aa t):VP V Qo [vT t] Q↔Q (.tu [vD t,.b true]):=by
 refine Ae ?_
 rw [Ab C.c_z126.1 C.c_z126.2]
 have hn:=ht.n64
 have hu:=ht.up
 have b1:t.nodes.length * 8≤A6:=by unfold A6;omega
 have s1:=fun (Q:VV→Prop)=>S5 C t ht (Q:=Q)
 simp only [Zd,Hl,go_sem,↓reduceIte,s1,b1,Int.le_refl,AkB]
 refine Au (by decide) t.nodes.length (by omega) (I:=fun k F h=>A3.tmp F 1 = .fp (eT t) 0∧A3.tmp F 2 = .p 0 0 0 0∧A3.tmp F 4 = .p 3 0 0 0∧A3.tmp F 22 = .ls (t.nodes.map eN)∧h=hD t k) ?_ ?_ 0 _ _ (by omega) ?_ ?_ ?_
 ·rintro k F h hk p24 p23 ⟨p1,p2,p4,p22,rfl⟩
  have huk:=hu k hk
  by_cases c:0≤(t.at k).up
  ·obtain ⟨u,hu'⟩:=Int.eq_ofNat_of_zero_le c
   have huu:u < t.nodes.length:=by omega
   have g1:=A3k (n:=t.nodes.length) (k:=k) (j:=u) (f:=P2 t) (z:=(0:Int)) (by omega) huu
   have g2:=A3k (n:=t.nodes.length) (k:=k) (j:=u) (f:=ovr t) (z:=0#64) (by omega) huu
   have d1:=AbO hu (u+1) u (by omega) huu
   have wd:IntKind.i64.wrap (P2 t u+1)=P2 t k:=by rw [YK hu hk hu',AG (by omega) (by omega)]
   have wo:=(A7G hu hk hu').symm
   simp only [Hl,go_sem,↓reduceIte,p24,p23,p1,p2,p4,p22,hD,hk,A5 hk,c,hu',huu,g1,g2,CS C,A0,HH hk,wd,wo]
   have e:=Mq (n:=t.nodes.length) (k:=k) (f:=P2 t) (z:=(0:Int)) id
   rw [List.map_id,List.map_id] at e
   rw [show P2 t k=id (P2 t k) from rfl,e]
  ·simp only [Hl,go_sem,↓reduceIte,p24,p23,p1,p2,p4,p22,hD,hk,A5 hk,c,A0]
   rw [SF (f:=P2 t) (A5v (by omega)),SF (f:=ovr t) (A7F (by omega))]
 ·rintro F h ⟨p1,p2,p4,p22,rfl⟩
  simp only [Hl,go_sem,↓reduceIte,p1,p2,p4,p22,hD]
  rw [GI,GI];rfl
 ·simp only [Hl,go_sem,↓reduceIte]
 ·simp only [Hl,go_sem,↓reduceIte]
 ·simp only [Hl,go_sem,↓reduceIte]
  rw [hD,Eo,Eo]
theorem Jm (t:A4) {n:Nat} (hn:n < t.nodes.length):VP V UM [vD t,.i .i64 n] Q↔Q (.b (decide ((t.at n).thread < 0))):=by
 refine Ae ?_
 rw [Ab C.c_z162.1 C.c_z162.2]
 simp only [ZB,TS,go_sem,↓reduceIte,A5 hn]
theorem QX (t:A4) (ht:Aa t) {a b:Nat} (ha:a < t.nodes.length) (hb:b < t.nodes.length):VP V UL [vD t,.i .i64 a,.i .i64 b] Q↔Q (.b (AQ t a b)):=by
 refine Ae ?_
 rw [Ab C.c_z161.1 C.c_z161.2]
 have e:=Tb ht.up ht.n64 ha hb
 cases c:decide (P2 t a < P2 t b) with
 | false =>
  simp only [Tk,Q6,go_sem,↓reduceIte,M1 ha,M1 hb,c]
  rw [← e,c];rfl
 | true =>
  simp only [Tk,Q6,go_sem,↓reduceIte,M1 ha,M1 hb,A7E hb,c,BO C]
  rw [← e,c];rfl
theorem RC (t:A4) (ht:Aa t) {a b:Nat} (ha:a < t.nodes.length) (hb:b < t.nodes.length):VP V MY [vD t,.i .i64 a,.i .i64 b] Q↔Q (.b (Ao t a b)):=by
 refine Ae ?_
 rw [Ab C.c_z129.1 C.c_z129.2]
 have e:Ao t a b=if (t.at a).thread < 0 then decide (0≤(t.at b).thread) else AQ t a b:=by
  unfold Ao;rw [Cl ha,Cl hb,Int.toNat_natCast,Int.toNat_natCast];rfl
 cases c:decide ((t.at a).thread < 0) with
 | true =>
  simp only [Ti,Q4,go_sem,↓reduceIte,Jm C t ha,Jm C t hb,c]
  rw [e,if_pos (of_decide_eq_true c)]
  by_cases d:(t.at b).thread < 0
  ·rw [decide_eq_true d,decide_eq_false (by omega)];rfl
  ·rw [decide_eq_false d,decide_eq_true (by omega)];rfl
 | false =>
  simp only [Ti,Q4,go_sem,↓reduceIte,Jm C t ha,QX C t ht ha hb,c]
  rw [e,if_neg (of_decide_eq_false c)]
end
theorem Sx (L:Nat):∀ (l:List (List VV)),(∀ r∈l,∃ x,r=[vW x])→l.all (Cx L)=true:=by
 intro l h
 rw [List.all_eq_true]
 intro r hr
 obtain ⟨x,rfl⟩:=h r hr
 rfl
theorem A4t {l:List (BitVec 64)} {k:Nat} {x:BitVec 64}:∀ r∈(l.map eW).set k [vW x],∃ x,r=[vW x]:=by
 intro r hr
 rcases List.mem_or_eq_of_mem_set hr with h | h
 ·obtain ⟨y,_,rfl⟩:=List.mem_map.1 h;exact ⟨y,rfl⟩
 ·exact ⟨x,h⟩
theorem A4s {l:List (BitVec 64)}:∀ r∈l.map eW,∃ x,r=[vW x]:=by
 intro r hr
 obtain ⟨y,_,rfl⟩:=List.mem_map.1 hr;exact ⟨y,rfl⟩
theorem A4w (p:Nat→Bool):(BC fun b=>decide (b < 0) && p b)=0#64:=by
 rw [← Ga]
 exact Ba fun j _=>by simp
theorem A4v {k:Nat} (hk:k < 64) (p:Nat→Bool) (h:p k=true):(BC fun b=>decide (b < k) && p b) ||| C9 k=BC fun b=>decide (b < k+1) && p b:=by
 rw [Mo _ k hk]
 refine Ba fun j _=>?_
 by_cases e:j=k
 ·subst e;simp [h]
 ·have:(j < k+1)↔(j < k):=by omega
  simp [e,this]
theorem A4u {k:Nat} (p:Nat→Bool) (h:p k=false):(BC fun b=>decide (b < k) && p b)=BC fun b=>decide (b < k+1) && p b:=by
 refine Ba fun j _=>?_
 by_cases e:j=k
 ·subst e;simp [h]
 ·have:(j < k+1)↔(j < k):=by omega
  simp [this]
section
variable {V:Al} (C:AA V) {Q:VV→Prop}
include C
def hR (n k i:Nat) (p:Nat→Nat→Bool):VH:=[some ⟨Bd,1,0,false,((Co n k (fun x=>BC fun b=>decide (b < n) && p x b) 0#64).map eW).set k [vW (BC fun b=>decide (b < i) && p k b)]⟩]
theorem Ye (t:A4) (hn:t.nodes.length≤64) {gf:Nat} {a c:List VV} (ha:Fz a) (hc:Fz c) (p:Nat→Nat→Bool)
  (hp:∀ (i j:Nat),i < t.nodes.length→j < t.nodes.length→VP V gf (a++[.i .i64 (i:Nat),.i .i64 (j:Nat)]++c) fun r=>r = .b (p i j)) :
  VP V MX [vD t,.f gf a c] Q↔Q (lW (AE t.nodes.length p)):=by
 refine Ae ?_
 rw [Ab C.c_z127.1 C.c_z127.2]
 have b1:t.nodes.length * 8≤A6:=by unfold A6;omega
 simp only [Ze,Dy,go_sem,↓reduceIte,ha.call hc,b1,Int.le_refl]
 refine Au (by decide) t.nodes.length (by omega) (I:=fun k F h=>A3.tmp F 1 = .f gf a c∧A3.tmp F 5 = .sl 0 0 0 t.nodes.length∧h=[some ⟨Bd,1,0,false,(Co t.nodes.length k (fun x=>BC fun b=>decide (b < t.nodes.length) && p x b) 0#64).map eW⟩]) ?_ ?_ 0 _ _ (by omega) ?_ ?_ ?_
 ·rintro k F h hk p15 p14 ⟨p1,p5,rfl⟩
  simp only [Dy,go_sem,↓reduceIte,p15,p14,p1,p5,A0]
  refine Au (by decide) t.nodes.length (by omega) (I:=fun i F h=>A3.tmp F 1 = .f gf a c∧A3.tmp F 5 = .sl 0 0 0 t.nodes.length∧A3.tmp F 6 = .i .i64 k∧A3.tmp F 15 = .i .i64 k∧A3.tmp F 14 = .i .i64 t.nodes.length∧h=hR t.nodes.length k i p) ?_ ?_ 0 _ _ (by omega) ?_ ?_ ?_
  ·rintro i F h hi q20 q19 ⟨q1,q5,q6,q15,q14,rfl⟩
   have hq:=fun Q=>Ae (hp k i hk hi) (Q:=Q)
   have hfz:=ha.call hc (h:=hR t.nodes.length k i p) (x:=[.i .i64 (k:Nat),.i .i64 (i:Nat)]) rfl
   simp only [List.append_assoc,List.cons_append,List.nil_append] at hq hfz
   cases z:p k i with
   | false =>
    simp only [Dy,go_sem,↓reduceIte,q20,q19,q1,q5,q6,q15,q14,hfz,hq,Fz.bel ha,Fz.bel hc,A0,z]
    refine ⟨rfl,?_⟩
    rw [hR,hR,A4u (fun b=>p k b) z]
   | true =>
    rw [hR] at hfz
    have hg:(((Co t.nodes.length k (fun x=>BC fun b=>decide (b < t.nodes.length) && p x b) 0#64).map eW).set k [vW (BC fun b=>decide (b < i) && p k b)])[k]? = some [vW (BC fun b=>decide (b < i) && p k b)]:=List.getElem?_set_self (by rw [List.length_map,QY];exact hk)
    simp only [Dy,go_sem,↓reduceIte,q20,q19,q1,q5,q6,q15,q14,hfz,hq,Fz.bel ha,Fz.bel hc,A0,z,CS C,hR,hk,hg,List.set_set,A4v (show i < 64 by omega) (fun b=>p k b) z]
    exact .inr (Sx _ _ A4t)
  ·rintro F h ⟨q1,q5,q6,q15,q14,rfl⟩
   simp only [Dy,go_sem,↓reduceIte,q1,q5,q6,q15,q14,Fz.bel ha,Fz.bel hc]
   have e:hR t.nodes.length k t.nodes.length p=[some ⟨Bd,1,0,false,(Co t.nodes.length (k+1) (fun x=>BC fun b=>decide (b < t.nodes.length) && p x b) 0#64).map eW⟩]:=by rw [hR,Mq (f:=fun x=>BC fun b=>decide (b < t.nodes.length) && p x b) eW]
   rw [e]
   exact ⟨⟨.inr (fun x hx=>by cases hx;exact Sx _ _ A4s),trivial⟩,rfl⟩
  ·simp only [Dy,go_sem,↓reduceIte,p1,p5,p15,p14]
  ·simp only [Dy,go_sem,↓reduceIte,p1,p5,p15,p14]
  ·simp only [Dy,go_sem,↓reduceIte,p1,p5,p15,p14,Fz.bel ha,Fz.bel hc]
   rw [hR,A4w]
   have e:((Co t.nodes.length k (fun x=>BC fun b=>decide (b < t.nodes.length) && p x b) 0#64).map eW).set k [vW 0#64]=(Co t.nodes.length k (fun x=>BC fun b=>decide (b < t.nodes.length) && p x b) 0#64).map eW:=by
    have g:((Co t.nodes.length k (fun x=>BC fun b=>decide (b < t.nodes.length) && p x b) 0#64).map eW)[k]? = some [vW 0#64]:=by rw [List.getElem?_map,HH hk];rfl
    obtain ⟨g1,g2⟩:=List.getElem?_eq_some_iff.1 g
    rw [← g2,List.set_getElem_self]
   rw [e]
 ·rintro F h ⟨p1,p5,rfl⟩
  simp only [Dy,go_sem,↓reduceIte,p1,p5,GI]
  rfl
 ·simp only [Dy,go_sem,↓reduceIte]
 ·simp only [Dy,go_sem,↓reduceIte]
 ·simp only [Dy,go_sem,↓reduceIte,Eo]
theorem fzD (t:A4):Fz [vD t]:=fun _ _=>rfl
theorem A4H (t:A4) (ht:Aa t):VP V A2Q [vT t] Q↔Q (lW (AE t.nodes.length fun a b=>Ao t a b)):=by
 refine Ae ?_
 rw [Ab C.c_z84.1 C.c_z84.2]
 have s1:=fun (Q:VV→Prop)=>A4I C t ht (Q:=Q)
 have s2:=fun (Q:VV→Prop)=>Ye C t ht.n64 (gf:=MY) (fzD C t) Fz.nil (fun a b=>Ao t a b) (fun i j hi hj=>(RC C t ht hi hj).2 rfl) (Q:=Q)
 simp only [A6e,A20,go_sem,↓reduceIte,s1,s2]
end
def nw (n:Nat):AV:=.i .u64 (n:Int)
theorem N8 {e:Option NW} (n k m:Nat) (h:k < 64) (hm:2 ^ k=m):B1 .shr e (nw n) (.i .u64 k)=some (nw (n / m)):=by
 have:=A5n (e:=e) (a:=BitVec.ofNat 64 n) h
 have h0:¬ ((k:Int) < 0):=by omega
 simp only [nw,B1,Gj,if_neg h0,IntKind.bits,Option.some.injEq,AV.i.injEq,true_and,Int.toNat_natCast]
 rw [Nat.min_eq_left (by omega)]
 rw [show ((2:Int) ^ k)=((2 ^ k:Nat):Int) by simp,Int.fdiv_eq_ediv_of_nonneg _ (Int.natCast_nonneg _),hm]
 rfl
theorem QA {e:Option NW} (n m:Nat) (hn:n < 18446744073709551616) (hm:m < 18446744073709551616):B1 .and e (nw n) (nw m)=some (nw (n &&& m)):=by
 have h:=Wv (e:=e) (a:=BitVec.ofNat 64 n) (b:=BitVec.ofNat 64 m)
 have e1:Wd (BitVec.ofNat 64 n)=nw n:=by unfold Wd nw;rw [BitVec.toNat_ofNat,Nat.mod_eq_of_lt hn]
 have e2:Wd (BitVec.ofNat 64 m)=nw m:=by unfold Wd nw;rw [BitVec.toNat_ofNat,Nat.mod_eq_of_lt hm]
 rw [e1,e2] at h
 rw [h]
 congr 1
 unfold Wd nw
 rw [BitVec.toNat_and,BitVec.toNat_ofNat,BitVec.toNat_ofNat,Nat.mod_eq_of_lt hn,Nat.mod_eq_of_lt hm]
theorem N7 {e:Option NW} (n m:Nat) (h:n+m < 18446744073709551616):B1 .add e (nw n) (nw m)=some (nw (n+m)):=by
 simp only [nw,B1,EX,if_true,HL,Option.some.injEq,AV.i.injEq,true_and]
 omega
def wv (n:Nat):VV:=.i .u64 (n:Int)
theorem D7 {op:BinOp} {e:Option NW} {a b c:Nat} (h:B1 op e (nw a) (nw b)=some (nw c)):B6 op e (wv a) (wv b)=some (wv c):=by
 show (B1 op e (nw a) (nw b)).bind Gz=_
 rw [h];rfl
section
variable {V:Al} (C:AA V) {Q:VV→Prop}
include C
set_option maxHeartbeats 2000000 in
theorem R4 (w:BitVec 64):VP V Uv [vW w] Q↔Q (.i .i64 ((BX w).length:Nat)):=by
 refine Ae ?_
 rw [Ab C.c_z140.1 C.c_z140.2]
 have hw:vW w=wv w.toNat:=rfl
 have hx:=w.isLt
 obtain ⟨l1,l2,l3,l4,l5,l6,l7⟩:=AkZ hx
 have hp:=A4l w
 rw [hw]
 generalize w.toNat=x at *
 have c0:VV.i .u64 6148914691236517205=wv 6148914691236517205:=rfl
 have c1:VV.i .u64 3689348814741910323=wv 3689348814741910323:=rfl
 have c2:VV.i .u64 1085102592571150095=wv 1085102592571150095:=rfl
 have k2:VV.i .u64 2=wv 2:=rfl
 have k4:VV.i .u64 4=wv 4:=rfl
 have k8:VV.i .u64 8=wv 8:=rfl
 have k16:VV.i .u64 16=wv 16:=rfl
 have k32:VV.i .u64 32=wv 32:=rfl
 have k1:vW 1#64=wv 1:=rfl
 have t1:∀ e n,B6 .shr e (wv n) (wv 1)=some (wv (n / 2)):=fun e n=>D7 (N8 n 1 2 (by omega) rfl)
 have t2:∀ e n,B6 .shr e (wv n) (wv 2)=some (wv (n / 4)):=fun e n=>D7 (N8 n 2 4 (by omega) rfl)
 have t4:∀ e n,B6 .shr e (wv n) (wv 4)=some (wv (n / 16)):=fun e n=>D7 (N8 n 4 16 (by omega) rfl)
 have t8:∀ e n,B6 .shr e (wv n) (wv 8)=some (wv (n / 256)):=fun e n=>D7 (N8 n 8 256 (by omega) rfl)
 have t16:∀ e n,B6 .shr e (wv n) (wv 16)=some (wv (n / 65536)):=fun e n=>D7 (N8 n 16 65536 (by omega) rfl)
 have t32:∀ e n,B6 .shr e (wv n) (wv 32)=some (wv (n / 4294967296)):=fun e n=>D7 (N8 n 32 4294967296 (by omega) rfl)
 have b1:∀ e,B6 .and e (wv (x / 2)) (wv 6148914691236517205)=some (wv (x / 2 &&& 6148914691236517205)):=fun e=>D7 (QA _ _ (by omega) (by omega))
 have b2:∀ e,B6 .and e (wv x) (wv 6148914691236517205)=some (wv (x &&& 6148914691236517205)):=fun e=>D7 (QA _ _ (by omega) (by omega))
 have b3:∀ e,B6 .add e (wv (x / 2 &&& 6148914691236517205)) (wv (x &&& 6148914691236517205))=some (wv (s1 x)):=fun e=>D7 (N7 _ _ l1)
 generalize hy1:s1 x=y1 at *
 have d1:∀ e,B6 .and e (wv (y1 / 4)) (wv 3689348814741910323)=some (wv (y1 / 4 &&& 3689348814741910323)):=fun e=>D7 (QA _ _ (by omega) (by omega))
 have d2:∀ e,B6 .and e (wv y1) (wv 3689348814741910323)=some (wv (y1 &&& 3689348814741910323)):=fun e=>D7 (QA _ _ (by omega) (by omega))
 have d3:∀ e,B6 .add e (wv (y1 / 4 &&& 3689348814741910323)) (wv (y1 &&& 3689348814741910323))=some (wv (s2 y1)):=fun e=>D7 (N7 _ _ l2)
 generalize hy2:s2 y1=y2 at *
 have f1:∀ e,B6 .add e (wv (y2 / 16)) (wv y2)=some (wv (y2 / 16+y2)):=fun e=>D7 (N7 _ _ l3)
 have f2:∀ e,B6 .and e (wv (y2 / 16+y2)) (wv 1085102592571150095)=some (wv (s3 y2)):=fun e=>D7 (QA _ _ l3 (by omega))
 generalize hy3:s3 y2=y3 at *
 have g1:∀ e,B6 .add e (wv y3) (wv (y3 / 256))=some (wv (s4 y3)):=fun e=>D7 (N7 _ _ l5)
 generalize hy4:s4 y3=y4 at *
 have g2:∀ e,B6 .add e (wv y4) (wv (y4 / 65536))=some (wv (s5 y4)):=fun e=>D7 (N7 _ _ l6)
 generalize hy5:s5 y4=y5 at *
 have g3:∀ e,B6 .add e (wv y5) (wv (y5 / 4294967296))=some (wv (s6 y5)):=fun e=>D7 (N7 _ _ (by have:s6 y5=y5+y5 / 4294967296:=rfl;omega))
 generalize hy6:s6 y5=y6 at *
 have g4:∀ e,B6 .and e (.i .i64 (IntKind.i64.wrap (y6:Int))) (.i .i64 127)=some (.i .i64 ((y6 % 128:Nat):Int)):=by
  intro e
  rw [AG (by omega) (by omega)]
  have w2:(BitVec.ofInt 64 (y6:Int)).toNat=y6:=by
   rw [BitVec.ofInt_natCast,BitVec.toNat_ofNat]
   exact Nat.mod_eq_of_lt (by omega)
  have w3:(BitVec.ofInt 64 127).toNat=127:=rfl
  have w4:y6 &&& 127=y6 % 128:=Nat.and_two_pow_sub_one_eq_mod y6 7
  have w5:(BitVec.ofInt 64 (y6:Int) &&& BitVec.ofInt 64 127).toNat=y6 % 128:=by
   rw [BitVec.toNat_and,w2,w3,w4]
  have h:B1 .and e (.i .i64 (y6:Int)) (.i .i64 127)=some (.i .i64 ((y6 % 128:Nat):Int)):=by
   simp only [B1,EX,if_true,Option.some.injEq,AV.i.injEq,true_and]
   show IntKind.i64.wrap (((BitVec.ofInt 64 (y6:Int) &&& BitVec.ofInt 64 127).toNat:Nat):Int)=_
   rw [w5,AG (by omega) (by omega)]
  show (B1 .and e (.i .i64 (y6:Int)) (.i .i64 127)).bind Gz=_
  rw [h];rfl
 have hcv:∀ h,A5t .i64 (wv y6) h=some (.i .i64 (IntKind.i64.wrap (y6:Int)),h):=fun _=>rfl
 simp only [Zk,TM,go_sem,↓reduceIte,c0,c1,c2,k1,k2,k4,k8,k16,k32,t1,t2,t4,t8,t16,t32,b1,b2,b3,d1,d2,d3,f1,f2,g1,g2,g3,hcv,g4,hp]
theorem T5 (w:BitVec 64):VP V A2Z [vW w] Q↔Q (.i .i64 ((BX w).length:Nat)):=by
 refine Ae ?_
 rw [Ab C.c_z96.1 C.c_z96.2]
 simp only [A6m,A23,go_sem,↓reduceIte,R4 C]
end
theorem AkC:min 4 9=4:=rfl
section
variable {V:Al} (C:AA V) {Q:VV→Prop}
include C
end
end Go.AM
