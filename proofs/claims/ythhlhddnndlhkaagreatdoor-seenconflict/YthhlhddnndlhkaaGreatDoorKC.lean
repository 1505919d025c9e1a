/-
  Own work, part of the proof of the laws SeenLasts, SeenCalm, SeenConflict: what functions compute (third part).
-/
import Derived.Test.YthhlhddnndlhkaaGreatDoorKB
import Derived.Test.YthhlhddnndlhkaaGreatDoorKA
import Derived.Test.YthhlhddnndlhkaaGreatDoorPl
import Derived.Test.YthhlhddnndlhkaaGreatDoorAmE
set_option maxRecDepth 4000
set_option linter.unusedVariables false
set_option linter.unusedSimpArgs false
set_option linter.unusedSectionVars false
set_option linter.unnecessarySimpa false
namespace Go.AM
open Go Go.Proofs
theorem Aae {args:List VV} (y x:Option VO) (r:VH) (j:Nat) (h0:(Ss args).contains 1=true) (h1:(Ss args).contains (j+1+1)=true):∃ y' r',Bn (KT args (y::x::r)) (y::x::r)=y'::x::r'∧r'[j]? = r[j]?:=by
 obtain ⟨⟨y',r'⟩,hr'⟩:=EG y x r h0
 refine ⟨y',r',hr',?_⟩
 have:=A4Q (y::x::r) (j+1+1) h1
 rw [hr'] at this
 simpa using this
def AfV (v:VV):Prop:=∃ row,v = .ag row∧GC row
section
variable {V:Am} (C:Au V) {Q:VV→Prop}
include C
set_option maxHeartbeats 8000000 in
theorem Mb (l:List U8) (hl:l.length≤1000∧∀ x∈l,x.n < 256) (vals:Int) (hv:1≤vals∧vals≤4) (nl:Nat) (hnl:1≤nl∧nl≤4) (rg:List (List ByteArray)) (hrg:1≤rg.length∧rg.length≤4) (d:Nat) (hd:d≤10)
  (ih:0 < d→∀ (a:Nat) (ha:a≤l.length) (j:Nat) (r:VH) (hR:r[j]? = some (some (AL BM 1 (rg.map J9)))) {x0:Option VO},
   Hj V JT [.p 1 0 0 0,vHp vals nl,.sl (j+1+1) rg.length 0 rg.length,.i .i64 ((d - 1:Nat):Int)] (x0::MO l a::r) fun v h=>AfV v∧MS x0 l r h)
  (a:Nat) (ha:a≤l.length) (j:Nat) (r:VH) (hR0:r[j]? = some (some (AL BM 1 (rg.map J9)))) {x0:Option VO} :
  Hj V JT [.p 1 0 0 0,vHp vals nl,.sl (j+1+1) rg.length 0 rg.length,.i .i64 d] (x0::MO l a::r) fun v h=>AfV v∧MS x0 l r h:=by
 have hjr:j < r.length:=(List.getElem?_eq_some_iff.1 hR0).1
 have hR:∀ x,(r++x)[j]? = some (some (AL BM 1 (rg.map J9))):=fun x=>by rw [List.getElem?_append_left hjr];exact hR0
 have hbq:(List.length r+1 == j)=false:=by rw [beq_eq_false_iff_ne];omega
 have hix:=ES (ty:=BM) (e:=1) (rows:=rg.map J9) (by rw [List.length_map];omega)
 rw [CN C.h_z181]
 simp only [Rq,B7,go_sem,↓reduceIte]
 refine (AP C l hl a ha _ _).mono ?_
 rintro _ _ ⟨k,rfl,hk,a,ha,rfl⟩
 by_cases c0:(0:Int) < d
 ·by_cases c3:(3:Int) < k
  ·have wd:IntKind.i64.wrap (((d:Nat):Int) - 1)=((d - 1:Nat):Int):=by rw [AC (by omega) (by omega)];omega
   by_cases c4:(k:Int)=4
   ·simp only [B7,go_sem,↓reduceIte,c0,c3,c4,wd]
    refine (ih (by omega) a ha j _ (hR _)).mono ?_
    rintro _ _ ⟨⟨row,rfl,g1⟩,a,ha,rfl⟩
    have g1':=g1
    cases g1 with
    | mk o1 t1 m1 n1 ks1 q1 z1 =>
    try simp only [B7,go_sem,↓reduceIte,wd,hbq]
    exact ⟨⟨_,rfl,.mk _ _ _ _ _ (by simp) (by intro x hx;rw [List.mem_singleton.1 hx];exact g1')⟩,a,ha,rfl⟩
   ·simp only [B7,go_sem,↓reduceIte,c0,c3,c4,wd]
    refine (AP C l hl a ha _ _).mono ?_
    rintro _ _ ⟨k2,rfl,hk2,a,ha,rfl⟩
    try simp only [B7,go_sem,↓reduceIte,c0,c3,c4,wd]
    refine (ih (by omega) a ha j _ (hR _)).mono ?_
    rintro _ _ ⟨⟨row,rfl,g1⟩,a,ha,rfl⟩
    have g1':=g1
    cases g1 with
    | mk o1 t1 m1 n1 ks1 q1 z1 =>
    try simp only [B7,go_sem,↓reduceIte,wd,hbq]
    refine ⟨?_,?_⟩
    ·obtain ⟨y0,r',hr',hr2⟩:=Aae (args:=[.p 1 0 0 0,vHp vals nl,.sl (j+1+1) rg.length 0 rg.length,.i .i64 ((d - 1:Nat):Int)]) x0 (MO l a) (r++[some { ty:=QW,esz:=0,ver:=0,nl:=false,rows:=[[.i .i64 0,.i .i64 0,.s (bs []),.i .i64 0,.nl]] },some { ty:=QW,esz:=0,ver:=0,nl:=false,rows:=[[.i .i64 o1,.i .i64 t1,.s m1,.i .i64 n1,.ls ks1]] }]) j rfl (by simp [Ss])
     rw [hr']
     exact (ih (by omega) a ha j _ (hr2.trans (hR _))).to2
    refine (ih (by omega) a ha j _ (hR _)).mono ?_
    rintro _ _ ⟨⟨row,rfl,g2⟩,a,ha,rfl⟩
    have g2':=g2
    cases g2 with
    | mk o2 t2 m2 n2 ks2 q2 z2 =>
    try simp only [B7,go_sem,↓reduceIte,wd,hbq]
    exact ⟨⟨_,rfl,.mk _ _ _ _ _ (by simp) (by intro x hx;rcases List.mem_cons.1 hx with rfl | hx;exact g1';rw [List.mem_singleton.1 hx];exact g2')⟩,a,ha,rfl⟩
  ·simp only [B7,go_sem,↓reduceIte,c0,c3]
   refine (AP C l hl a ha _ _).mono ?_
   rintro _ _ ⟨t,rfl,ht,a,ha,rfl⟩
   have ht:t < rg.length:=by have:=ht (by omega);omega
   have hrt:=KD ht
   have ht':(t:Int) < rg.length:=by omega
   by_cases k0:(0:Int) < k
   ·by_cases z:(0:Int) < (rg.getD t []).length
    ·try simp only [B7,go_sem,↓reduceIte,k0,hR,hrt,Eb,hix,ht',z,List.length_map,List.getElem?_map]
     refine ⟨by rw [(EG x0 (MO l a) _ rfl).choose_spec];exact (AP C l hl a ha _ _).to2,?_⟩
     refine (AP C l hl a ha _ _).mono ?_
     rintro _ _ ⟨q,rfl,hq,a,ha,rfl⟩
     have hq:q < (rg.getD t []).length:=by have:=hq (by omega);omega
     try simp only [B7,go_sem,↓reduceIte,k0,hR,hrt,Eb,hix,ht',z,List.length_map,List.getElem?_map,Qr hq]
     refine ⟨by rw [(EG x0 (MO l a) _ rfl).choose_spec];exact (AP C l hl a ha _ _).to2,?_⟩
     refine (AP C l hl a ha _ _).mono ?_
     rintro _ _ ⟨n,rfl,hn,a,ha,rfl⟩
     try simp only [B7,go_sem,↓reduceIte,k0,hR,hrt,Eb,hix,ht',z,List.length_map,List.getElem?_map,Qr hq]
     exact ⟨⟨_,rfl,.mk _ _ _ _ _ (by simp) (by simp)⟩,a,ha,rfl⟩
    ·try simp only [B7,go_sem,↓reduceIte,k0,hR,hrt,Eb,hix,ht',z,List.length_map,List.getElem?_map]
     refine (AP C l hl a ha _ _).mono ?_
     rintro _ _ ⟨i,rfl,hi,a,ha,rfl⟩
     have hi:i < 4:=by have:=hi (by omega);omega
     try simp only [B7,go_sem,↓reduceIte,HX C i hi]
     refine (AP C l hl a ha _ _).mono ?_
     rintro _ _ ⟨n,rfl,hn,a,ha,rfl⟩
     try simp only [B7,go_sem,↓reduceIte,HX C i hi]
     exact ⟨⟨_,rfl,.mk _ _ _ _ _ (by simp) (by simp)⟩,a,ha,rfl⟩
   ·try simp only [B7,go_sem,↓reduceIte,k0]
    refine (AP C l hl a ha _ _).mono ?_
    rintro _ _ ⟨i,rfl,hi,a,ha,rfl⟩
    have hi:i < 4:=by have:=hi (by omega);omega
    try simp only [B7,go_sem,↓reduceIte,HX C i hi]
    refine (AP C l hl a ha _ _).mono ?_
    rintro _ _ ⟨n,rfl,hn,a,ha,rfl⟩
    try simp only [B7,go_sem,↓reduceIte,HX C i hi]
    exact ⟨⟨_,rfl,.mk _ _ _ _ _ (by simp) (by simp)⟩,a,ha,rfl⟩
 ·simp only [B7,go_sem,↓reduceIte,c0]
  refine (AP C l hl a ha _ _).mono ?_
  rintro _ _ ⟨t,rfl,ht,a,ha,rfl⟩
  have ht:t < rg.length:=by have:=ht (by omega);omega
  have hrt:=KD ht
  have ht':(t:Int) < rg.length:=by omega
  by_cases k0:(0:Int) < k
  ·by_cases z:(0:Int) < (rg.getD t []).length
   ·try simp only [B7,go_sem,↓reduceIte,k0,hR,hrt,Eb,hix,ht',z,List.length_map,List.getElem?_map]
    refine ⟨by rw [(EG x0 (MO l a) _ rfl).choose_spec];exact (AP C l hl a ha _ _).to2,?_⟩
    refine (AP C l hl a ha _ _).mono ?_
    rintro _ _ ⟨q,rfl,hq,a,ha,rfl⟩
    have hq:q < (rg.getD t []).length:=by have:=hq (by omega);omega
    try simp only [B7,go_sem,↓reduceIte,k0,hR,hrt,Eb,hix,ht',z,List.length_map,List.getElem?_map,Qr hq]
    refine ⟨by rw [(EG x0 (MO l a) _ rfl).choose_spec];exact (AP C l hl a ha _ _).to2,?_⟩
    refine (AP C l hl a ha _ _).mono ?_
    rintro _ _ ⟨n,rfl,hn,a,ha,rfl⟩
    try simp only [B7,go_sem,↓reduceIte,k0,hR,hrt,Eb,hix,ht',z,List.length_map,List.getElem?_map,Qr hq]
    exact ⟨⟨_,rfl,.mk _ _ _ _ _ (by simp) (by simp)⟩,a,ha,rfl⟩
   ·try simp only [B7,go_sem,↓reduceIte,k0,hR,hrt,Eb,hix,ht',z,List.length_map,List.getElem?_map]
    refine (AP C l hl a ha _ _).mono ?_
    rintro _ _ ⟨i,rfl,hi,a,ha,rfl⟩
    have hi:i < 4:=by have:=hi (by omega);omega
    try simp only [B7,go_sem,↓reduceIte,HX C i hi]
    refine (AP C l hl a ha _ _).mono ?_
    rintro _ _ ⟨n,rfl,hn,a,ha,rfl⟩
    try simp only [B7,go_sem,↓reduceIte,HX C i hi]
    exact ⟨⟨_,rfl,.mk _ _ _ _ _ (by simp) (by simp)⟩,a,ha,rfl⟩
  ·try simp only [B7,go_sem,↓reduceIte,k0]
   refine (AP C l hl a ha _ _).mono ?_
   rintro _ _ ⟨i,rfl,hi,a,ha,rfl⟩
   have hi:i < 4:=by have:=hi (by omega);omega
   try simp only [B7,go_sem,↓reduceIte,HX C i hi]
   refine (AP C l hl a ha _ _).mono ?_
   rintro _ _ ⟨n,rfl,hn,a,ha,rfl⟩
   try simp only [B7,go_sem,↓reduceIte,HX C i hi]
   exact ⟨⟨_,rfl,.mk _ _ _ _ _ (by simp) (by simp)⟩,a,ha,rfl⟩
theorem Ady (l:List U8) (hl:l.length≤1000∧∀ x∈l,x.n < 256) (vals:Int) (hv:1≤vals∧vals≤4) (nl:Nat) (hnl:1≤nl∧nl≤4) (rg:List (List ByteArray)) (hrg:1≤rg.length∧rg.length≤4) (d:Nat):d≤10→∀ (a:Nat) (ha:a≤l.length) (j:Nat) (r:VH) (hR:r[j]? = some (some (AL BM 1 (rg.map J9)))) {x0:Option VO},
      Hj V JT [.p 1 0 0 0,vHp vals nl,.sl (j+1+1) rg.length 0 rg.length,.i .i64 d] (x0::MO l a::r) fun v h=>AfV v∧MS x0 l r h:=by
  induction d with
  | zero=>exact fun _=>Mb C l hl vals hv nl hnl rg hrg 0 (by omega) (fun h=>absurd h (by omega))
  | succ d ih=>exact fun _=>Mb C l hl vals hv nl hnl rg hrg (d+1) (by omega) (fun _=>ih (by omega))
end
abbrev oPz:Option VO:=some ⟨QX,0,0,false,[[.s (bs []),.i .i64 0,.nl,.nl,.i .i64 0,.i .i64 0,.i .i64 0,.s (bs []),.i .i64 0,.nl]]⟩
abbrev oPr (n:Nat) (vals ask:Int) (vi vt:Nat):Option VO:=some ⟨QX,0,0,false,[[.s (bs [109,97,100,101]),.i .i64 vals,.sl (n+2+1+1) vi 0 vi,.sl (n+2+1+1+1) vt 0 vt,.i .i64 ask,.i .i64 0,.i .i64 0,.s (bs []),.i .i64 0,.sl (n+2+1+1+1+1) 0 0 0]]⟩
def LI (x0:Option VO) (l:List U8) (vals ask:Int) (r:VH) (k:Nat) (h:VH):Prop:=∃ (a:Nat) (ini:List (ByteArray×Int)),a≤l.length∧ini.length=k∧ini.map (·.1)=HJ k∧(∀ x∈ini,0≤x.2∧x.2 < vals) ∧
 h=x0::MO l a::(r++[oPz,oPr r.length vals ask k 0,some (AL QV 2 (ini.map eCl)),some DO,some DO])
def TI (x0:Option VO) (l:List U8) (L:List ByteArray) (vals ask:Int) (nl:Nat) (ini:List (ByteArray×Int)) (r:VH) (k:Nat) (h:VH):Prop:=∃ (a:Nat) (thr:List (List (List VV))) (rg:List (List ByteArray)),a≤l.length∧thr.length=k∧rg.length=k∧(∀ l∈thr,l.length≤10∧∀ s∈l,GS L s)∧(∀ l∈rg,l.length≤4) ∧
 h=x0::MO l a::(r++[oPz,oPr r.length vals ask nl k,some (AL QV 2 (ini.map eCl)),some (AL UO 1 (thr.map fun l=>[.ls l])),some DO,some (AL BM 1 (rg.map J9))])
theorem A6e {nl:Nat} (x:ByteArray) (h:x∈HJ nl):x.size≤1000:=by
 obtain ⟨k,_,rfl⟩:=List.mem_map.1 h
 rcases k with _ | _ | _ | k<;>(show (1:Nat)≤1000;decide)
theorem AbO (nl:Nat) (h:nl≤4):(HJ nl).Nodup:=by
 rcases (show nl=0∨nl=1∨nl=2∨nl=3∨nl=4 by omega) with rfl | rfl | rfl | rfl | rfl<;>decide
theorem A6f (k:Nat):HJ (k+1)=HJ k++[UL k]:=by unfold HJ;rw [List.range_succ,List.map_append];rfl
section
variable {V:Am} (C:Au V) {Q:VV→Prop}
include C
set_option maxHeartbeats 8000000 in
theorem Wn (l:List U8) (hl:l.length≤1000∧∀ x∈l,x.n < 256) (vals:Int) (hv:2≤vals∧vals≤4) (nl:Nat) (hnl:1≤nl∧nl≤4) (th most deep:Nat) (ht:1≤th∧th≤4) (hm:most≤9) (hd:deep≤9) (a:Nat) (ha:a≤l.length) (r:VH) {x0:Option VO} :
  Hj V MN [.p 1 0 0 0,vHp vals nl,.i .i64 th,.i .i64 most,.i .i64 deep] (x0::MO l a::r) fun v h=>(∃ p:PP,v=p.v∧GP2 p)∧MS x0 l r h:=by
 rw [CN C.h_z135]
 simp only [Rj,C8,go_sem,↓reduceIte]
 refine (AP C l hl a ha _ _).mono ?_
 rintro _ _ ⟨k,rfl,hk,a,ha,rfl⟩
 simp only [C8,go_sem,↓reduceIte,AF,Yn,CG]
 generalize IntKind.i64.wrap (1 + ↑k)=ask
 refine Ai (by decide) nl (by omega) (I:=fun k F h=>LI x0 l vals ask r k h∧A4.tmp F 0 = .p 1 0 0 0∧A4.tmp F 2 = .i .i64 th∧A4.tmp F 3 = .i .i64 most∧A4.tmp F 4 = .i .i64 deep∧A4.tmp F 6=fHp vals nl∧A4.tmp F 10 = .p (r.length+1+1) 0 0 0∧A4.tmp F 11 = .p (r.length+1+1+1) 0 0 0) ?_ ?_ ?_ 0 _ _ (Nat.zero_le _) ?_ ?_
 ·rintro k F h hk p12 ⟨h1,p0,p2,p3,p4,p6,p10,p11⟩
  simp only [C8,go_sem,↓reduceIte,p12,p0,p2,p3,p4,p6,p10,p11]
  exact h1
 ·rintro k F h hk p12 ⟨⟨a,ini,ha,hil,him,hiv,rfl⟩,p0,p2,p3,p4,p6,p10,p11⟩
  have b1:(ini.length+1) * 24≤A7:=by unfold A7;omega
  subst hil
  simp only [A4p,C8,go_sem,↓reduceIte,p12,p0,p2,p3,p4,p6,p10,p11,HX C ini.length (by omega),Yn,CG,A0]
  refine (AP C l hl a ha _ _).mono ?_
  rintro _ _ ⟨k1,rfl,hk1,a,ha,rfl⟩
  try simp only [C8,go_sem,↓reduceIte,p12,p0,p2,p3,p4,p6,p10,p11,Yn,CG]
  refine (AP C l hl a ha _ _).mono ?_
  rintro _ _ ⟨k2,rfl,hk2,a,ha,rfl⟩
  have hk1:=hk1 (by omega)
  have w1:IntKind.i64.wrap (1+(k2:Int))=1+(k2:Int):=AC (by omega) (by have:=hk2 (by omega);omega)
  have hq1:((k1:Int)).tmod (1+(k2:Int))=((k1 % (1+k2):Nat):Int):=by rw [Int.tmod_eq_emod_of_nonneg (by omega),Int.natCast_emod,Int.natCast_add];rfl
  have hq2:=Nat.mod_le k1 (1+k2)
  try simp only [C8,go_sem,↓reduceIte,p12,p0,p2,p3,p4,p6,p10,p11,Yn,CG,w1,G6 (show 1+(k2:Int)≠0 by omega),hq1,b1]
  refine ⟨.inr ?_,⟨a,ini++[(UL ini.length,((k1 % (1+k2):Nat):Int))],ha,by simp,by rw [List.map_append,him,A6f];rfl,?_,?_⟩,?_⟩
  ·rw [List.all_eq_true]
   intro x hx
   rcases List.mem_append.1 hx with hx | hx
   ·obtain ⟨y,_,rfl⟩:=List.mem_map.1 hx;rfl
   ·rw [List.mem_singleton.1 hx];rfl
  ·intro x hx
   rcases List.mem_append.1 hx with hx | hx
   ·exact hiv x hx
   ·rw [List.mem_singleton.1 hx];exact ⟨by show (0:Int)≤_;omega,by show _ < vals;omega⟩
  ·rw [← Jx,List.map_append];rfl
  ·rw [show decide (List.length r+1+1 < List.length r+5+1+1)=true by rw [decide_eq_true_iff];omega];rfl
 ·rintro F h ⟨⟨a,ini,ha,hil,him,hiv,rfl⟩,p0,p2,p3,p4,p6,p10,p11⟩
  simp only [C8,go_sem,↓reduceIte,p0,p2,p3,p4,p6,p10,p11]
  refine Ai (by decide) th (by omega) (I:=fun k F h=>TI x0 l (HJ nl) vals ask nl ini r k h∧A4.tmp F 0 = .p 1 0 0 0∧A4.tmp F 2 = .i .i64 th∧A4.tmp F 3 = .i .i64 most∧A4.tmp F 4 = .i .i64 deep∧A4.tmp F 6=fHp vals nl∧A4.tmp F 10 = .p (r.length+1+1) 0 0 0∧A4.tmp F 11 = .p (r.length+1+1+1) 0 0 0∧A4.tmp F 13 = .sl (r.length+5+1+1) k 0 k) ?_ ?_ ?_ 0 _ _ (Nat.zero_le _) ?_ ?_
  ·rintro k F h hk p14 ⟨h1,p0,p2,p3,p4,p6,p10,p11,p13⟩
   simp only [C8,go_sem,↓reduceIte,p14,p0,p2,p3,p4,p6,p10,p11,p13]
   exact h1
  ·rintro k F h hk p14 ⟨⟨a,thr,rg,ha,htl,hrl,hth,hrg,rfl⟩,p0,p2,p3,p4,p6,p10,p11,p13⟩
   have b1:(thr.length+1) * 24≤A7:=by unfold A7;omega
   have b2:(rg.length+1) * 24≤A7:=by unfold A7;omega
   have w1:=Gp (show most < 9223372036854775807 by omega)
   subst htl
   simp only [A4t,C8,go_sem,↓reduceIte,p14,p0,p2,p3,p4,p6,p10,p11,p13,w1,Yn,CG,A0]
   refine (AP C l hl a ha _ _).mono ?_
   rintro _ _ ⟨k1,rfl,hk1,a,ha,rfl⟩
   have hk1:k1 < most+1:=by have:=hk1 (by omega);omega
   try simp only [C8,go_sem,↓reduceIte,p14,p0,p2,p3,p4,p6,p10,p11,p13,Yn,CG]
   refine (Aak C l hl vals (by omega) nl hnl deep (by omega) k1 (by omega) a ha _ KR.nil _).mono ?_
   rintro _ _ ⟨⟨rows,g,rfl,hrw,hgs,nm,hn1,hn2,rfl⟩,a,ha,rfl⟩
   try simp only [C8,go_sem,↓reduceIte,p14,p0,p2,p3,p4,p6,p10,p11,p13,Yn,CG,b1,b2,hrl]
   have d1:decide (List.length r+1+1 < List.length r+6+1+1)=true:=by rw [decide_eq_true_iff];omega
   have d2:decide (List.length r+1+1+1 < List.length r+6+1+1)=true:=by rw [decide_eq_true_iff];omega
   have d3:decide (List.length r+5+1+1 < List.length r+6+1+1)=true:=by rw [decide_eq_true_iff];omega
   refine ⟨.inr ?_,.inr ?_,⟨a,thr++[rows],rg++[nm],ha,by simp,by simp [hrl],?_,?_,?_⟩,?_⟩
   ·rw [List.all_eq_true]
    intro x hx
    rcases List.mem_append.1 hx with hx | hx
    ·obtain ⟨y,_,rfl⟩:=List.mem_map.1 hx;rfl
    ·rw [List.mem_singleton.1 hx];rfl
   ·rw [List.all_eq_true]
    intro x hx
    rcases List.mem_append.1 hx with hx | hx
    ·obtain ⟨y,_,rfl⟩:=List.mem_map.1 hx;rfl
    ·rw [List.mem_singleton.1 hx];rfl
   ·intro x hx
    rcases List.mem_append.1 hx with hx | hx
    ·exact hth x hx
    ·rw [List.mem_singleton.1 hx];exact ⟨by omega,hgs⟩
   ·intro x hx
    rcases List.mem_append.1 hx with hx | hx
    ·exact hrg x hx
    ·rw [List.mem_singleton.1 hx];exact PD hn1 hn2
   ·rw [← Jx,← Jx,List.map_append,List.map_append,hrl];rfl
   ·simp only [d1,d2,d3,go_sem,Ni,bel]
  ·rintro F h ⟨⟨a,thr,rg,ha,htl,hrl,hth,hrg,rfl⟩,p0,p2,p3,p4,p6,p10,p11,p13⟩
   subst hrl
   try simp only [C8,go_sem,↓reduceIte,p0,p2,p3,p4,p6,p10,p11,p13]
   refine (Ady C l hl vals (by omega) nl hnl rg (by omega) 2 (by omega) a ha (r.length+5) _ (by rw [And];rfl)).mono ?_
   rintro _ _ ⟨⟨row,rfl,g1⟩,a,ha,rfl⟩
   have g1':=g1
   cases g1 with
   | mk o1 t1 m1 n1 ks1 q1 z1 =>
   have f1:∀ (hh:VH) (d:Nat),B4 (fun row=>B4 (frz hh (d+1)) row) (ini.map eCl)=some (ini.map eCl,[]):=fun hh d=>LB fun x hx=>by obtain ⟨y,_,rfl⟩:=List.mem_map.1 hx;rfl
   have f2:∀ (hh:VH) (d:Nat),B4 (fun row=>B4 (frz hh (d+1)) row) (thr.map fun l=>[VV.ls l])=some (thr.map fun l=>[VV.ls l],[]):=fun hh d=>LB fun x hx=>by obtain ⟨y,_,rfl⟩:=List.mem_map.1 hx;rfl
   try simp only [C8,go_sem,↓reduceIte,p0,p2,p3,p4,p6,p10,p11,p13,f1,f2,hil,htl]
   refine ⟨⟨⟨bs [109,97,100,101],vals,ini,thr,ask,o1,t1,m1,n1,ks1⟩,by rw [List.take_of_length_le (by omega),List.take_of_length_le (by omega)],?_⟩,a,ha,rfl⟩
   refine ⟨⟨by show (4:Nat)≤1000;decide,by show ini.length≤1000;omega,fun x hx=>?_,by show thr.length≤1000;omega,fun x hx=>?_,g1'⟩,hv.1,hv.2,by show ini.length≤4;omega,by show (ini.map (·.1)).Nodup;rw [him];exact AbO _ hnl.2,hiv,by show 1≤thr.length;omega,by show thr.length≤4;omega⟩
   ·have:x.1∈HJ nl:=him ▸ List.mem_map.2 ⟨x,hx,rfl⟩
    exact A6e _ this
   ·have:=hth x hx
    exact ⟨by omega,by show ∀ s∈x,GS (ini.map (·.1)) s;rw [him];exact this.2⟩
  ·simp only [C8,go_sem,↓reduceIte,p0,p2,p3,p4,p6,p10,p11]
  ·simp only [C8,go_sem,↓reduceIte,p0,p2,p3,p4,p6,p10,p11]
   exact ⟨a,[],[],ha,rfl,rfl,by simp,by simp,rfl⟩
 ·simp only [C8,go_sem,↓reduceIte]
 ·simp only [C8,go_sem,↓reduceIte]
  exact ⟨a,[],ha,rfl,rfl,by simp,rfl⟩
def isP (v:VV):Prop:=∃ p:PP,v=p.v∧GP2 p
theorem Aaj (l:List U8) (hl:l.length≤1000∧∀ x∈l,x.n < 256) (vals:Int) (hv:2≤vals∧vals≤4) (nl:Nat) (hnl:1≤nl∧nl≤4) (a:Nat) (ha:a≤l.length) (r:VH) {x0:Option VO} :
  Hj V A5u [.p 1 0 0 0,vHp vals nl] (x0::MO l a::r) fun v h=>isP v∧MS x0 l r h:=by
 rw [CN C.h_z80]
 simp only [A9u,HN,go_sem,↓reduceIte]
 refine (AP C l hl a ha _ _).mono ?_
 rintro _ _ ⟨k,rfl,hk,a,ha,rfl⟩
 by_cases k0:(k:Int)=0
 ·simp only [HN,go_sem,↓reduceIte,k0,A0]
  refine (Wn C l hl vals hv nl hnl 1 3 1 (by omega) (by omega) (by omega) a ha _).mono ?_
  rintro _ _ ⟨⟨p,rfl,hp⟩,a,ha,rfl⟩
  try simp only [HN,go_sem,↓reduceIte,k0,A0]
  exact ⟨⟨p,rfl,hp⟩,a,ha,rfl⟩
 by_cases k1:(k:Int)=1
 ·simp only [HN,go_sem,↓reduceIte,k0,k1,A0]
  refine (Wn C l hl vals hv nl hnl 3 1 0 (by omega) (by omega) (by omega) a ha _).mono ?_
  rintro _ _ ⟨⟨p,rfl,hp⟩,a,ha,rfl⟩
  try simp only [HN,go_sem,↓reduceIte,k0,A0]
  exact ⟨⟨p,rfl,hp⟩,a,ha,rfl⟩
 ·simp only [HN,go_sem,↓reduceIte,k0,k1,A0]
  refine (Wn C l hl vals hv nl hnl 2 2 1 (by omega) (by omega) (by omega) a ha _).mono ?_
  rintro _ _ ⟨⟨p,rfl,hp⟩,a,ha,rfl⟩
  try simp only [HN,go_sem,↓reduceIte,k0,A0]
  exact ⟨⟨p,rfl,hp⟩,a,ha,rfl⟩
theorem Aai (l:List U8) (hl:l.length≤1000∧∀ x∈l,x.n < 256) (a:Nat) (ha:a≤l.length) (r:VH) {x0:Option VO} :
  Hj V A54 [.p 1 0 0 0] (x0::MO l a::r) fun v h=>isP v∧MS x0 l r h:=by
 rw [CN C.h_z29]
 simp only [A92,Pm,go_sem,↓reduceIte]
 refine (AP C l hl a ha _ _).mono ?_
 rintro _ _ ⟨k,rfl,hk,a,ha,rfl⟩
 have w1:IntKind.i64.wrap (1+(k:Int))=((1+k:Nat):Int):=by rw [AC (by omega) (by have:=hk (by omega);omega)];omega
 simp only [Pm,go_sem,↓reduceIte,w1]
 refine (Aaj C l hl 2 (by omega) (1+k) (by have:=hk (by omega);omega) a ha _).mono ?_
 rintro _ _ ⟨⟨p,rfl,hp⟩,a,ha,rfl⟩
 try simp only [Pm,go_sem,↓reduceIte]
 exact ⟨⟨p,rfl,hp⟩,a,ha,rfl⟩
theorem Adw (l:List U8) (x0:Option VO) {Q:VV→VH→Prop} (hq:Q (.p 1 0 0 0) [x0,MO l 0]):LS V Qc [lU l] [x0] Q:=by
 rw [Eu C.h_z28]
 simp only [TY,RE,go_sem,↓reduceIte]
 exact hq
theorem Adx (v:VV) (h:isP v):VP V A53 [v] fun x=>∃ (t:A2) (e:Bool),x = .tu [vT t,.b e]∧(e=true→A8 t):=by
 obtain ⟨p,rfl,hp⟩:=h
 rw [Ac C.c_z26.1 C.c_z26.2]
 obtain ⟨_,⟨t,e,rfl,ht⟩,qb⟩:=Db (Tk C p hp)
 simp only [A91,A4B,go_sem,↓reduceIte,qb]
 exact ⟨t,_,rfl,fun h=>ht (by simpa using h)⟩
theorem JQ (l:List U8) (hl:l.length≤1000∧∀ x∈l,x.n < 256):VP V AdF [lU l] fun x=>∃ (t:A2) (e:Bool),x = .tu [vT t,.b e]∧(e=true→A8 t∧t.nodes.length≤30):=by
 rw [Ac C.c_z4.1 C.c_z4.2]
 simp only [AfM,A6Z,go_sem,↓reduceIte]
 refine Adw C l _ ?_
 refine (Aai C l hl 0 (by omega) []).mono ?_
 rintro _ _ ⟨⟨p,rfl,hp⟩,a,ha,rfl⟩
 obtain ⟨_,⟨t,e,rfl,ht⟩,qt⟩:=Db (Adx C p.v ⟨p,rfl,hp⟩)
 cases e with
 | false =>
  simp only [A6Z,go_sem,↓reduceIte,qt]
  exact ⟨t,false,rfl,fun h=>absurd h (by simp)⟩
 | true =>
  simp only [A6Z,go_sem,↓reduceIte,qt]
  refine ⟨t,_,rfl,fun h=>⟨ht rfl,?_⟩⟩
  have:=of_decide_eq_true h
  omega
theorem Q9 (s:A5) (hs:Hq s):VP V A4V [J6 s] Q↔Q (vW (Cj s.has)):=by
 refine Ad ?_
 rw [Ac C.c_z13.1 C.c_z13.2]
 have:=hs.has
 simp only [A8N,A4x,go_sem,↓reduceIte,Um C s.has (by omega)]
end
theorem KW {t:A2} {l:List Int} (h:Cc t l=true):∀ n∈l,BI t n=true:=by
 intro n hn
 obtain ⟨k,hk,rfl⟩:=List.mem_iff_getElem.1 hn
 simp only [Cc,Bool.and_eq_true] at h
 have:=Ah.1 h.1 k hk
 simp only [C9,Bool.and_eq_true] at this
 have:=this.1.1
 rw [List.getD_eq_getElem?_getD,List.getElem?_eq_getElem hk] at this
 exact this
theorem Gl {p:Nat→Bool} {k:Nat} (h:∀ j,j < k→p j=true) (hk:p k=true):∀ j,j < k+1→p j=true:=by
 intro j hj
 by_cases e:j=k
 ·subst e;exact hk
 ·exact h j (by omega)
theorem Ln {t:A2} {s:A5} (h:Cc t s.has=true→s.jf.length=s.has.length→s.mo.length=t.locs.length→(List.range s.has.length).all (GU t s)=true→(List.range s.mo.length).all (DH t s)=true→(List.range s.has.length).all (L0 t s)=true→False):false=BH t s:=by
 rw [eq_comm,← Bool.not_eq_true]
 intro e
 simp only [BH,Bool.and_eq_true,decide_eq_true_eq] at e
 exact h e.1.1.1.1.1 e.1.1.1.1.2 e.1.1.1.2 e.1.1.2 e.1.2 e.2
section
variable {V:Am} (C:Au V) {Q:VV→Prop}
include C
set_option maxHeartbeats 4000000 in
theorem CD (t:A2) (ht:A8 t) (s:A5) (hs:Hq s):VP V A57 [vT t,J6 s] Q↔Q (.b (BH t s)):=by
 refine Ad ?_
 rw [Ac C.c_z32.1 C.c_z32.2]
 have hu:=ht.up
 have hn:=ht.n64
 have hh:=hs.has
 have hj:=hs.jf
 have hmo:=hs.mo
 have s1:=fun (Q:VV→Prop)=>Tr C t (by omega) s.has (by omega) (Q:=Q)
 cases c1:Cc t s.has with
 | false =>
  simp only [TZ,Bo,go_sem,↓reduceIte,s1,c1]
  exact Ln fun h _ _ _ _ _=>by rw [c1] at h;cases h
 | true =>
 have hnode:=KW c1
 by_cases c2:¬ s.jf.length=s.has.length
 ·have c2':¬ (s.jf.length:Int)=s.has.length:=by omega
  simp only [TZ,Bo,go_sem,↓reduceIte,s1,c1,c2']
  exact Ln fun _ h _ _ _ _=>c2 h
 have c2:=Decidable.not_not.1 c2
 have c2':(s.jf.length:Int)=s.has.length:=by omega
 by_cases c3:¬ s.mo.length=t.locs.length
 ·have c3':¬ (s.mo.length:Int)=t.locs.length:=by omega
  simp only [TZ,Bo,go_sem,↓reduceIte,s1,c1,c2',c3']
  exact Ln fun _ _ h _ _ _=>c3 h
 have c3:=Decidable.not_not.1 c3
 have c3':(s.mo.length:Int)=t.locs.length:=by omega
 simp only [TZ,Bo,go_sem,↓reduceIte,s1,c1,c2',c3']
 refine Ai (by decide) s.has.length (by omega) (I:=fun k F h=>h=[]∧A4.tmp F 2 = .fp (eT t) 0∧A4.tmp F 3 = .fp (TU s) 0∧∀ j,j < k→GU t s j=true) ?_ ?_ ?_ 0 _ _ (Nat.zero_le _) ?_ ?_
 ·rintro k F h hk p5 ⟨rfl,p2,p3,p4⟩
  simp only [Bo,go_sem,↓reduceIte,p5,p2,p3]
  exact p4
 ·rintro k F h hk p5 ⟨rfl,p2,p3,p4⟩
  have hkj:k < s.jf.length:=by omega
  obtain ⟨n,hn1,hn2⟩:=Aa (hnode _ (Ap (d:=0) hk))
  have bad:GU t s k=false→false=BH t s:=fun h=>Ln fun _ _ _ h1 _ _=>by rw [BF hk h] at h1;cases h1
  have hok:GU t s k=if (t.at n).kind=2 then B2 s.has (s.jf.getD k 0) && HM t (s.jf.getD k 0) (t.at n).loc && decide ((t.at (s.jf.getD k 0).toNat).val=(t.at n).val) else decide (s.jf.getD k 0 = -1):=by
   unfold GU;rw [hn1,Int.toNat_natCast]
  by_cases k2:(t.at n).kind=2
  ·rw [if_pos k2] at hok
   cases w1:B2 s.has (s.jf.getD k 0) with
   | false =>
    simp only [Bo,go_sem,↓reduceIte,p5,p2,p3,Az hk,Az hkj,hn1,A6 hn2,k2,Aw C s.has (by omega),CE,w1,A0]
    exact bad (by rw [hok,w1];rfl)
   | true =>
   obtain ⟨m,hm1,hm2⟩:=Aa (hnode _ (A9.1 w1))
   have hok2:GU t s k=(decide ((t.at m).kind=3) && decide ((t.at m).loc=(t.at n).loc) && decide ((t.at m).val=(t.at n).val)):=by
    rw [hok,w1];unfold HM;rw [hm1,Int.toNat_natCast,Bool.true_and]
   rw [hm1] at w1
   cases x1:decide ((t.at m).kind=3) with
   | false =>
    simp only [Bo,go_sem,↓reduceIte,p5,p2,p3,Az hk,Az hkj,hn1,hm1,A6 hn2,A6 hm2,k2,Aw C s.has (by omega),CE,w1,x1,A0]
    exact bad (by rw [hok2,x1];rfl)
   | true =>
   cases x2:decide ((t.at m).loc=(t.at n).loc) with
   | false =>
    simp only [Bo,go_sem,↓reduceIte,p5,p2,p3,Az hk,Az hkj,hn1,hm1,A6 hn2,A6 hm2,k2,Aw C s.has (by omega),CE,w1,x1,x2,A0]
    exact bad (by rw [hok2,x1,x2];rfl)
   | true =>
   cases x3:decide ((t.at m).val=(t.at n).val) with
   | false =>
    simp only [Bo,go_sem,↓reduceIte,p5,p2,p3,Az hk,Az hkj,hn1,hm1,A6 hn2,A6 hm2,k2,Aw C s.has (by omega),CE,w1,x1,x2,x3,A0]
    exact bad (by rw [hok2,x1,x2,x3];rfl)
   | true =>
    simp only [Bo,go_sem,↓reduceIte,p5,p2,p3,Az hk,Az hkj,hn1,hm1,A6 hn2,A6 hm2,k2,Aw C s.has (by omega),CE,w1,x1,x2,x3,A0]
    exact Gl p4 (by rw [hok2,x1,x2,x3];rfl)
  ·rw [if_neg k2] at hok
   cases w1:decide (s.jf.getD k 0 = -1) with
   | false =>
    simp only [Bo,go_sem,↓reduceIte,p5,p2,p3,Az hk,Az hkj,hn1,A6 hn2,k2,w1,A0]
    exact bad (by rw [hok,w1])
   | true =>
    simp only [Bo,go_sem,↓reduceIte,p5,p2,p3,Az hk,Az hkj,hn1,A6 hn2,k2,w1,A0]
    exact Gl p4 (by rw [hok,w1])
 ·rintro F h ⟨rfl,p2,p3,p4⟩
  have f1:=BG p4
  simp only [Bo,go_sem,↓reduceIte,p2,p3]
  refine Ai (by decide) s.mo.length (by omega) (I:=fun k F h=>h=[]∧A4.tmp F 2 = .fp (eT t) 0∧A4.tmp F 3 = .fp (TU s) 0∧∀ j,j < k→DH t s j=true) ?_ ?_ ?_ 0 _ _ (Nat.zero_le _) ?_ ?_
  ·rintro k F h hk p8 ⟨rfl,p2,p3,p4⟩
   simp only [Bo,go_sem,↓reduceIte,p8,p2,p3]
   exact p4
  ·rintro k F h hk p8 ⟨rfl,p2,p3,p4⟩
   have hml:=hs.mi' k
   have bad:DH t s k=false→false=BH t s:=fun h=>Ln fun _ _ _ _ h1 _=>by rw [BF hk h] at h1;cases h1
   by_cases z:(s.mo.getD k []).length=0
   ·have z':((s.mo.getD k []).length:Int)=0:=by omega
    simp only [Bo,go_sem,↓reduceIte,p8,p2,p3,Cv hk,z',A0]
    exact bad (by simp only [DH,z];simp)
   have z':¬ ((s.mo.getD k []).length:Int)=0:=by omega
   have z0:0 < (s.mo.getD k []).length:=by omega
   by_cases z1:¬ ((s.mo.getD k []).getD 0 []).length=1
   ·have z1':¬ (((s.mo.getD k []).getD 0 []).length:Int)=1:=by omega
    simp only [Bo,go_sem,↓reduceIte,p8,p2,p3,Cv hk,z',Hu z0,z1',A0]
    have:decide ((s.mo.getD k []).getD 0 []=[(k:Int)])=false:=decide_eq_false fun e=>z1 (by rw [e];rfl)
    exact bad (by simp only [DH,this,Bool.and_false,Bool.false_and])
   have z1:=Decidable.not_not.1 z1
   have z1':(((s.mo.getD k []).getD 0 []).length:Int)=1:=by omega
   have z2:0 < ((s.mo.getD k []).getD 0 []).length:=by omega
   cases z3:decide (((s.mo.getD k []).getD 0 []).getD 0 0=k) with
   | false =>
    simp only [Bo,go_sem,↓reduceIte,p8,p2,p3,Cv hk,z',Hu z0,z1',Az z2,z3,A0]
    have:decide ((s.mo.getD k []).getD 0 []=[(k:Int)])=false:=decide_eq_false fun e=>by rw [e] at z3;simp at z3
    exact bad (by simp only [DH,this,Bool.and_false,Bool.false_and])
   | true =>
   have hmd:DH t s k=(List.range (s.mo.getD k []).length).all fun i=>decide (i=0) || Cb t ((s.mo.getD k []).getD i []) s.has k:=by
    have e1:(s.mo.getD k []).getD 0 []=[(k:Int)]:=by
     have z3:=of_decide_eq_true z3
     generalize (s.mo.getD k []).getD 0 []=c at *
     rcases c with _ | ⟨c0,_ | ⟨c1,c⟩⟩
     ·simp at z1
     ·simpa using z3
     ·simp at z1
    have:decide ((s.mo.getD k []).getD 0 []=[(k:Int)])=true:=decide_eq_true e1
    simp only [DH,this,z,decide_false,Bool.not_false,Bool.true_and]
   simp only [Bo,go_sem,↓reduceIte,p8,p2,p3,Cv hk,z',Hu z0,z1',Az z2,z3,A0]
   refine Ai (by decide) (s.mo.getD k []).length (by omega) (I:=fun i F h=>h=[]∧A4.tmp F 2 = .fp (eT t) 0∧A4.tmp F 3 = .fp (TU s) 0∧A4.tmp F 8 = .i .i64 k∧1≤i∧∀ j,j < i→(decide (j=0) || Cb t ((s.mo.getD k []).getD j []) s.has k)=true) ?_ ?_ ?_ 1 _ _ (by omega) ?_ ?_
   ·rintro i F h hi q9 ⟨rfl,q2,q3,q8,q1,q4⟩
    simp only [Bo,go_sem,↓reduceIte,q9,q2,q3,q8,Cv hk]
    exact ⟨q1,q4⟩
   ·rintro i F h hi q9 ⟨rfl,q2,q3,q8,q1,q4⟩
    have hmc:=hs.mc' k i
    have s2:=fun (Q:VV→Prop)=>Tp C t hu ((s.mo.getD k []).getD i []) s.has (by omega) (by omega) hnode k (Q:=Q)
    cases c4:Cb t ((s.mo.getD k []).getD i []) s.has k with
    | false =>
     simp only [Bo,go_sem,↓reduceIte,q9,q2,q3,q8,Cv hk,Hu hi,s2,c4,A0]
     exact bad (by rw [hmd];exact BF hi (by rw [c4,decide_eq_false (by omega)];rfl))
    | true =>
     simp only [Bo,go_sem,↓reduceIte,q9,q2,q3,q8,Cv hk,Hu hi,s2,c4,A0]
     exact Gl q4 (by rw [c4];simp)
   ·rintro F h ⟨rfl,q2,q3,q8,q1,q4⟩
    simp only [Bo,go_sem,↓reduceIte,q2,q3,q8]
    exact Gl p4 (by rw [hmd];exact BG q4)
   ·simp only [Bo,go_sem,↓reduceIte,p2,p3,p8]
   ·simp only [Bo,go_sem,↓reduceIte,p2,p3,p8]
    intro j hj
    simp [show j=0 by omega]
  ·rintro F h ⟨rfl,p2,p3,p4⟩
   have f2:=BG p4
   simp only [Bo,go_sem,↓reduceIte,p2,p3]
   refine Ai (by decide) s.has.length (by omega) (I:=fun k F h=>h=[]∧A4.tmp F 2 = .fp (eT t) 0∧A4.tmp F 3 = .fp (TU s) 0∧∀ j,j < k→L0 t s j=true) ?_ ?_ ?_ 0 _ _ (Nat.zero_le _) ?_ ?_
   ·rintro k F h hk p10 ⟨rfl,p2,p3,p4⟩
    simp only [Bo,go_sem,↓reduceIte,p10,p2,p3]
    exact p4
   ·rintro k F h hk p10 ⟨rfl,p2,p3,p4⟩
    obtain ⟨n,hn1,hn2⟩:=Aa (hnode _ (Ap (d:=0) hk))
    have bad:L0 t s k=false→false=BH t s:=fun h=>Ln fun _ _ _ _ _ h1=>by rw [BF hk h] at h1;cases h1
    have hon:L0 t s k=(!decide ((t.at n).kind=3) || decide (((s.mo.getD (t.at n).loc.toNat []).filter fun c=>B2 c (n:Int)).length=1)):=by unfold L0;rw [hn1,Int.toNat_natCast]
    cases k3:decide ((t.at n).kind=3) with
    | false =>
     simp only [Bo,go_sem,↓reduceIte,p10,p2,p3,Az hk,hn1,A6 hn2,k3,A0]
     exact Gl p4 (by rw [hon,k3];rfl)
    | true =>
    rw [k3,Bool.not_true,Bool.false_or] at hon
    obtain ⟨l1,l2⟩:=ht.wloc hn2 (.inr (of_decide_eq_true k3))
    obtain ⟨lc,hlc⟩:=Int.eq_ofNat_of_zero_le l1
    have hlk:lc < s.mo.length:=by omega
    rw [hlc,Int.toNat_natCast] at hon
    simp only [Bo,go_sem,↓reduceIte,p10,p2,p3,Az hk,hn1,A6 hn2,k3,A0]
    have hml:=hs.mi' lc
    refine Ai (by decide) (s.mo.getD lc []).length (by omega) (I:=fun i F h=>h=[some ⟨Cn,0,0,false,[eN (t.at n)]⟩]∧A4.tmp F 2 = .fp (eT t) 0∧A4.tmp F 3 = .fp (TU s) 0∧A4.tmp F 10 = .i .i64 k∧A4.tmp F 11 = .p 0 0 0 0∧A4.tmp F 12 = .i .i64 ((((s.mo.getD lc []).take i).filter fun c=>B2 c (n:Int)).length:Nat)) ?_ ?_ ?_ 0 _ _ (Nat.zero_le _) ?_ ?_
    ·rintro i F h hi q13 ⟨rfl,q2,q3,q10,q11,q12⟩
     simp only [Bo,go_sem,↓reduceIte,q13,q2,q3,q10,q11,q12,hlc,Cv hlk]
    ·rintro i F h hi q13 ⟨rfl,q2,q3,q10,q11,q12⟩
     have hmc:=hs.mc' lc i
     have s2:=fun (Q:VV→Prop)=>Aw C ((s.mo.getD lc []).getD i []) (by omega) (n:Int) (Q:=Q)
     have hst:(s.mo.getD lc []).take (i+1)=(s.mo.getD lc []).take i++[(s.mo.getD lc []).getD i []]:=by
      have e:=List.take_succ_eq_append_getElem hi
      have e2:(s.mo.getD lc []).getD i []=(s.mo.getD lc [])[i]:=by rw [List.getD_eq_getElem?_getD,List.getElem?_eq_getElem hi];rfl
      rw [e2];exact e
     cases c4:B2 ((s.mo.getD lc []).getD i []) (n:Int) with
     | false =>
      simp only [Bo,go_sem,↓reduceIte,q13,q2,q3,q10,q11,q12,hlc,Cv hlk,Hu hi,Az hk,hn1,s2,GD,c4,A0]
      have e:[(s.mo.getD lc []).getD i []].filter (fun c=>B2 c (n:Int))=[]:=by rw [List.filter_cons,c4];rfl
      rw [hst,List.filter_append,e,List.append_nil]
     | true =>
      have hle:(((s.mo.getD lc []).take i).filter fun c=>B2 c (n:Int)).length≤1000:=Nat.le_trans (List.length_filter_le _ _) (by rw [List.length_take];omega)
      have w1:=Gp (show (((s.mo.getD lc []).take i).filter fun c=>B2 c (n:Int)).length < 9223372036854775807 by omega)
      simp only [Bo,go_sem,↓reduceIte,q13,q2,q3,q10,q11,q12,hlc,Cv hlk,Hu hi,Az hk,hn1,s2,GD,c4,w1,A0]
      have e:[(s.mo.getD lc []).getD i []].filter (fun c=>B2 c (n:Int))=[(s.mo.getD lc []).getD i []]:=by rw [List.filter_cons,c4];rfl
      rw [hst,List.filter_append,e,List.length_append];rfl
    ·rintro F h ⟨rfl,q2,q3,q10,q11,q12⟩
     by_cases c5:((s.mo.getD lc []).filter fun c=>B2 c (n:Int)).length=1
     ·simp only [Bo,go_sem,↓reduceIte,q2,q3,q10,q11,q12,List.take_length,c5]
      exact Gl p4 (by rw [hon,c5];rfl)
     ·have c5':decide ((((s.mo.getD lc []).filter fun c=>B2 c (n:Int)).length:Int)=1)=false:=decide_eq_false (by omega)
      simp only [Bo,go_sem,↓reduceIte,q2,q3,q10,q11,q12,List.take_length,c5']
      exact bad (by rw [hon];exact decide_eq_false c5)
    ·simp only [Bo,go_sem,↓reduceIte,p2,p3,p10]
    ·simp only [Bo,go_sem,↓reduceIte,p2,p3,p10]
   ·rintro F h ⟨rfl,p2,p3,p4⟩
    have f3:=BG p4
    simp only [Bo,go_sem,↓reduceIte,p2,p3]
    unfold BH
    rw [c1,decide_eq_true c2,decide_eq_true c3,f1,f2,f3];rfl
   ·simp only [Bo,go_sem,↓reduceIte,p2,p3]
   ·simp only [Bo,go_sem,↓reduceIte,p2,p3]
    intro j hj;omega
  ·simp only [Bo,go_sem,↓reduceIte,p2,p3]
  ·simp only [Bo,go_sem,↓reduceIte,p2,p3]
   intro j hj;omega
 ·simp only [Bo,go_sem,↓reduceIte]
 ·simp only [Bo,go_sem,↓reduceIte]
  intro j hj;omega
end
abbrev eD (t:A2):List VV:=[.i .i64 t.vals,lS t.locs,.ls (t.regs.map J9),.ls (t.nodes.map eN),lI (Afu t),lW (Ahm t)]
abbrev vD (t:A2):VV:=.ag (eD t)
theorem Aoo:min 4 6=4:=rfl
def hD (t:A2) (k:Nat):VH:=[some ⟨PT,0,0,false,[[.i .i64 0,.nl,.nl,.nl,.nl,.nl]]⟩,
 some ⟨AG,1,0,false,(D6 t.nodes.length k (Qz t) 0).map eI⟩,some ⟨Bf,1,0,false,(D6 t.nodes.length k (ovr t) 0#64).map eW⟩,
 some ⟨PT,0,0,false,[[.i .i64 t.vals,lS t.locs,.ls (t.regs.map J9),.ls (t.nodes.map eN),.sl 1 0 0 t.nodes.length,.sl 2 0 0 t.nodes.length]]⟩]
section
variable {V:Am} (C:Au V) {Q:VV→Prop}
include C
set_option maxHeartbeats 1000000 in
theorem PO (t:A2) (ht:A8 t):VP V A5m [vT t] Q↔Q (.tu [vD t,.b true]):=by
 refine Ad ?_
 rw [Ac C.c_z61.1 C.c_z61.2]
 have hn:=ht.n64
 have hu:=ht.up
 have b1:t.nodes.length * 8≤A7:=by unfold A7;omega
 have s1:=fun (Q:VV→Prop)=>Pl C t ht (Q:=Q)
 simp only [A9m,M9,go_sem,↓reduceIte,s1,b1,Int.le_refl,Aoo]
 refine Ae (by decide) t.nodes.length (by omega) (I:=fun k F h=>A4.tmp F 1 = .fp (eT t) 0∧A4.tmp F 2 = .p 0 0 0 0∧A4.tmp F 4 = .p 3 0 0 0∧A4.tmp F 22 = .ls (t.nodes.map eN)∧h=hD t k) ?_ ?_ 0 _ _ (by omega) ?_ ?_ ?_
 ·rintro k F h hk p24 p23 ⟨p1,p2,p4,p22,rfl⟩
  have huk:=hu k hk
  by_cases c:0≤(t.at k).up
  ·obtain ⟨u,hu'⟩:=Int.eq_ofNat_of_zero_le c
   have huu:u < t.nodes.length:=by omega
   have g1:=A64 (n:=t.nodes.length) (k:=k) (j:=u) (f:=Qz t) (z:=(0:Int)) (by omega) huu
   have g2:=A64 (n:=t.nodes.length) (k:=k) (j:=u) (f:=ovr t) (z:=0#64) (by omega) huu
   have d1:=Afv hu (u+1) u (by omega) huu
   have wd:IntKind.i64.wrap (Qz t u+1)=Qz t k:=by rw [A13 hu hk hu',AC (by omega) (by omega)]
   have wo:=(AaQ hu hk hu').symm
   simp only [M9,go_sem,↓reduceIte,p24,p23,p1,p2,p4,p22,hD,hk,A6 hk,c,hu',huu,g1,g2,BX C,A0,Jq hk,wd,wo]
   have e:=P4 (n:=t.nodes.length) (k:=k) (f:=Qz t) (z:=(0:Int)) id
   rw [List.map_id,List.map_id] at e
   rw [show Qz t k=id (Qz t k) from rfl,e]
  ·simp only [M9,go_sem,↓reduceIte,p24,p23,p1,p2,p4,p22,hD,hk,A6 hk,c,A0]
   rw [UA (f:=Qz t) (A8u (by omega)),UA (f:=ovr t) (AaP (by omega))]
 ·rintro F h ⟨p1,p2,p4,p22,rfl⟩
  simp only [M9,go_sem,↓reduceIte,p1,p2,p4,p22,hD]
  rw [Hd,Hd];rfl
 ·simp only [M9,go_sem,↓reduceIte]
 ·simp only [M9,go_sem,↓reduceIte]
 ·simp only [M9,go_sem,↓reduceIte]
  rw [hD,EM,EM]
theorem K1 (t:A2) {n:Nat} (hn:n < t.nodes.length):VP V WZ [vD t,.i .i64 n] Q↔Q (.b (decide ((t.at n).thread < 0))):=by
 refine Ad ?_
 rw [Ac C.c_z149.1 C.c_z149.2]
 simp only [A1A,VQ,go_sem,↓reduceIte,A6 hn]
theorem Yf (t:A2) {n:Nat} (hn:n < t.nodes.length):VP V ZV [vD t,.i .i64 n] Q↔Q (.b (decide ((t.at n).up < 0))):=by
 refine Ad ?_
 rw [Ac C.c_z65.1 C.c_z65.2]
 simp only [A9q,A4L,go_sem,↓reduceIte,A6 hn]
theorem Hc (t:A2) (ht:A8 t) {a b:Nat} (ha:a < t.nodes.length) (hb:b < t.nodes.length):VP V Wz [vD t,.i .i64 a,.i .i64 b] Q↔Q (.b (AA t a b)):=by
 refine Ad ?_
 rw [Ac C.c_z109.1 C.c_z109.2]
 have e:=V0 ht.up ht.n64 ha hb
 cases c:decide (Qz t a < Qz t b) with
 | false =>
  simp only [V5,RF,go_sem,↓reduceIte,Nk ha,Nk hb,c]
  rw [← e,c];rfl
 | true =>
  simp only [V5,RF,go_sem,↓reduceIte,Nk ha,Nk hb,AaO hb,c,AD C]
  rw [← e,c];rfl
theorem TC (t:A2) (ht:A8 t) {a b:Nat} (ha:a < t.nodes.length) (hb:b < t.nodes.length):VP V S0 [vD t,.i .i64 a,.i .i64 b] Q↔Q (.b (AE t a b)):=by
 refine Ad ?_
 rw [Ac C.c_z145.1 C.c_z145.2]
 have e:AE t a b=if (t.at a).thread < 0 then decide (0≤(t.at b).thread) else AA t a b:=by
  unfold AE;rw [BN ha,BN hb,Int.toNat_natCast,Int.toNat_natCast];rfl
 cases c:decide ((t.at a).thread < 0) with
 | true =>
  simp only [Vd,RK,go_sem,↓reduceIte,K1 C t ha,K1 C t hb,c]
  rw [e,if_pos (of_decide_eq_true c)]
  by_cases d:(t.at b).thread < 0
  ·rw [decide_eq_true d,decide_eq_false (by omega)];rfl
  ·rw [decide_eq_false d,decide_eq_true (by omega)];rfl
 | false =>
  simp only [Vd,RK,go_sem,↓reduceIte,K1 C t ha,Hc C t ht ha hb,c]
  rw [e,if_neg (of_decide_eq_false c)]
set_option maxHeartbeats 8000000 in
theorem SR (t:A2) (ht:A8 t) {a b:Nat} (ha:a < t.nodes.length) (hb:b < t.nodes.length):VP V ZU [vD t,.i .i64 a,.i .i64 b] Q↔Q (.b (AN t a b)):=by
 refine Ad ?_
 rw [Ac C.c_z63.1 C.c_z63.2]
 have e:AN t a b=(!decide ((a:Int)=b) && decide (0≤(t.at a).thread) && decide ((t.at a).thread=(t.at b).thread) && !AA t a b && !AA t b a):=by
  unfold AN;rw [BN ha,BN hb,Int.toNat_natCast,Int.toNat_natCast];rfl
 cases c1:decide ((a:Int)=b)<;>cases c2:decide (0≤(t.at a).thread)<;>cases c3:decide ((t.at a).thread=(t.at b).thread)<;>cases c4:AA t a b<;>cases c5:AA t b a<;>rw [c1,c2,c3,c4,c5] at e <;>
  simp only [A9o,A4K,go_sem,↓reduceIte,A6 ha,A6 hb,Hc C t ht ha hb,Hc C t ht hb ha,c1,c2,c3,c4,c5]<;>first | exact e.symm | (rw [e];rfl)
theorem C2 (n:AK):VP V X3 [vN n] Q↔Q (.b (D0 n)):=by
 refine Ad ?_
 rw [Ac C.c_z155.1 C.c_z155.2]
 cases c1:decide (n.kind=3)<;>cases c2:decide (0≤n.thread)<;>cases c3:decide (n.mode=0)<;>cases c4:n.rmw <;>
  simp only [A1E,VW,go_sem,↓reduceIte,c1,c2,c3,c4]<;>simp [D0,c1,c2,c3,c4]
end
theorem Uq (L:Nat):∀ (l:List (List VV)),(∀ r∈l,∃ x,r=[vW x])→l.all (CT L)=true:=by
 intro l h
 rw [List.all_eq_true]
 intro r hr
 obtain ⟨x,rfl⟩:=h r hr
 rfl
theorem A7g {l:List (BitVec 64)} {k:Nat} {x:BitVec 64}:∀ r∈(l.map eW).set k [vW x],∃ x,r=[vW x]:=by
 intro r hr
 rcases List.mem_or_eq_of_mem_set hr with h | h
 ·obtain ⟨y,_,rfl⟩:=List.mem_map.1 h;exact ⟨y,rfl⟩
 ·exact ⟨x,h⟩
theorem A7f {l:List (BitVec 64)}:∀ r∈l.map eW,∃ x,r=[vW x]:=by
 intro r hr
 obtain ⟨y,_,rfl⟩:=List.mem_map.1 hr;exact ⟨y,rfl⟩
theorem Uu (p:Nat→Bool):(BS fun b=>decide (b < 0) && p b)=0#64:=by
 rw [← Jo]
 exact Cd fun j _=>by simp
theorem Ut {k:Nat} (hk:k < 64) (p:Nat→Bool) (h:p k=true):(BS fun b=>decide (b < k) && p b) ||| CQ k=BS fun b=>decide (b < k+1) && p b:=by
 rw [SF _ k hk]
 refine Cd fun j _=>?_
 by_cases e:j=k
 ·subst e;simp [h]
 ·have:(j < k+1)↔(j < k):=by omega
  simp [e,this]
theorem Us {k:Nat} (p:Nat→Bool) (h:p k=false):(BS fun b=>decide (b < k) && p b)=BS fun b=>decide (b < k+1) && p b:=by
 refine Cd fun j _=>?_
 by_cases e:j=k
 ·subst e;simp [h]
 ·have:(j < k+1)↔(j < k):=by omega
  simp [this]
section
variable {V:Am} (C:Au V) {Q:VV→Prop}
include C
theorem A3y (t:A2) (hn:t.nodes.length≤64) {gf:Nat} {a c:List VV} (ha:Fz a) (hc:Fz c) (p:Nat→Bool)
  (hp:∀ (i:Nat),i < t.nodes.length→VP V gf (a++[.i .i64 (i:Nat)]++c) fun r=>r = .b (p i)) :
  VP V A5o [vD t,.f gf a c] Q↔Q (vW (BS fun b=>decide (b < t.nodes.length) && p b)):=by
 refine Ad ?_
 rw [Ac C.c_z64.1 C.c_z64.2]
 simp only [A9p,Ma,go_sem,↓reduceIte,ha.call hc]
 refine Ae (by decide) t.nodes.length (by omega) (I:=fun k F h=>A4.tmp F 1 = .f gf a c∧A4.tmp F 5=vW (BS fun b=>decide (b < k) && p b)∧h=[]) ?_ ?_ 0 _ _ (by omega) ?_ ?_ ?_
 ·rintro k F h hk p11 p10 ⟨p1,p5,rfl⟩
  have hq:=fun Q=>Ad (hp k hk) (Q:=Q)
  have hfz:=ha.call hc (h:=[]) (x:=[.i .i64 (k:Nat)]) rfl
  simp only [List.append_assoc,List.cons_append,List.nil_append] at hq hfz
  cases z:p k with
  | false =>
   simp only [Ma,go_sem,↓reduceIte,p11,p10,p1,p5,hfz,hq,Fz.bel ha,Fz.bel hc,A0,z]
   rw [Us p z]
  | true =>
   simp only [Ma,go_sem,↓reduceIte,p11,p10,p1,p5,hfz,hq,Fz.bel ha,Fz.bel hc,A0,z,BX C,Ut (show k < 64 by omega) p z]
 ·rintro F h ⟨p1,p5,rfl⟩
  simp only [Ma,go_sem,↓reduceIte,p1,p5]
 ·simp only [Ma,go_sem,↓reduceIte]
 ·simp only [Ma,go_sem,↓reduceIte]
 ·simp only [Ma,go_sem,↓reduceIte,Uu]
def hR (n k i:Nat) (p:Nat→Nat→Bool):VH:=[some ⟨Bf,1,0,false,((D6 n k (fun x=>BS fun b=>decide (b < n) && p x b) 0#64).map eW).set k [vW (BS fun b=>decide (b < i) && p k b)]⟩]
theorem Qk (t:A2) (hn:t.nodes.length≤64) {gf:Nat} {a c:List VV} (ha:Fz a) (hc:Fz c) (p:Nat→Nat→Bool)
  (hp:∀ (i j:Nat),i < t.nodes.length→j < t.nodes.length→VP V gf (a++[.i .i64 (i:Nat),.i .i64 (j:Nat)]++c) fun r=>r = .b (p i j)) :
  VP V A5n [vD t,.f gf a c] Q↔Q (lW (Ar t.nodes.length p)):=by
 refine Ad ?_
 rw [Ac C.c_z62.1 C.c_z62.2]
 have b1:t.nodes.length * 8≤A7:=by unfold A7;omega
 simp only [A9n,GZ,go_sem,↓reduceIte,ha.call hc,b1,Int.le_refl]
 refine Ae (by decide) t.nodes.length (by omega) (I:=fun k F h=>A4.tmp F 1 = .f gf a c∧A4.tmp F 5 = .sl 0 0 0 t.nodes.length∧h=[some ⟨Bf,1,0,false,(D6 t.nodes.length k (fun x=>BS fun b=>decide (b < t.nodes.length) && p x b) 0#64).map eW⟩]) ?_ ?_ 0 _ _ (by omega) ?_ ?_ ?_
 ·rintro k F h hk p15 p14 ⟨p1,p5,rfl⟩
  simp only [GZ,go_sem,↓reduceIte,p15,p14,p1,p5,A0]
  refine Ae (by decide) t.nodes.length (by omega) (I:=fun i F h=>A4.tmp F 1 = .f gf a c∧A4.tmp F 5 = .sl 0 0 0 t.nodes.length∧A4.tmp F 6 = .i .i64 k∧A4.tmp F 15 = .i .i64 k∧A4.tmp F 14 = .i .i64 t.nodes.length∧h=hR t.nodes.length k i p) ?_ ?_ 0 _ _ (by omega) ?_ ?_ ?_
  ·rintro i F h hi q20 q19 ⟨q1,q5,q6,q15,q14,rfl⟩
   have hq:=fun Q=>Ad (hp k i hk hi) (Q:=Q)
   have hfz:=ha.call hc (h:=hR t.nodes.length k i p) (x:=[.i .i64 (k:Nat),.i .i64 (i:Nat)]) rfl
   simp only [List.append_assoc,List.cons_append,List.nil_append] at hq hfz
   cases z:p k i with
   | false =>
    simp only [GZ,go_sem,↓reduceIte,q20,q19,q1,q5,q6,q15,q14,hfz,hq,Fz.bel ha,Fz.bel hc,A0,z]
    refine ⟨rfl,?_⟩
    rw [hR,hR,Us (fun b=>p k b) z]
   | true =>
    rw [hR] at hfz
    have hg:(((D6 t.nodes.length k (fun x=>BS fun b=>decide (b < t.nodes.length) && p x b) 0#64).map eW).set k [vW (BS fun b=>decide (b < i) && p k b)])[k]? = some [vW (BS fun b=>decide (b < i) && p k b)]:=List.getElem?_set_self (by rw [List.length_map,SS];exact hk)
    simp only [GZ,go_sem,↓reduceIte,q20,q19,q1,q5,q6,q15,q14,hfz,hq,Fz.bel ha,Fz.bel hc,A0,z,BX C,hR,hk,hg,List.set_set,Ut (show i < 64 by omega) (fun b=>p k b) z]
    exact .inr (Uq _ _ A7g)
  ·rintro F h ⟨q1,q5,q6,q15,q14,rfl⟩
   simp only [GZ,go_sem,↓reduceIte,q1,q5,q6,q15,q14,Fz.bel ha,Fz.bel hc]
   have e:hR t.nodes.length k t.nodes.length p=[some ⟨Bf,1,0,false,(D6 t.nodes.length (k+1) (fun x=>BS fun b=>decide (b < t.nodes.length) && p x b) 0#64).map eW⟩]:=by rw [hR,P4 (f:=fun x=>BS fun b=>decide (b < t.nodes.length) && p x b) eW]
   rw [e]
   exact ⟨⟨.inr (fun x hx=>by cases hx;exact Uq _ _ A7f),trivial⟩,rfl⟩
  ·simp only [GZ,go_sem,↓reduceIte,p1,p5,p15,p14]
  ·simp only [GZ,go_sem,↓reduceIte,p1,p5,p15,p14]
  ·simp only [GZ,go_sem,↓reduceIte,p1,p5,p15,p14,Fz.bel ha,Fz.bel hc]
   rw [hR,Uu]
   have e:((D6 t.nodes.length k (fun x=>BS fun b=>decide (b < t.nodes.length) && p x b) 0#64).map eW).set k [vW 0#64]=(D6 t.nodes.length k (fun x=>BS fun b=>decide (b < t.nodes.length) && p x b) 0#64).map eW:=by
    have g:((D6 t.nodes.length k (fun x=>BS fun b=>decide (b < t.nodes.length) && p x b) 0#64).map eW)[k]? = some [vW 0#64]:=by rw [List.getElem?_map,Jq hk];rfl
    obtain ⟨g1,g2⟩:=List.getElem?_eq_some_iff.1 g
    rw [← g2,List.set_getElem_self]
   rw [e]
 ·rintro F h ⟨p1,p5,rfl⟩
  simp only [GZ,go_sem,↓reduceIte,p1,p5,Hd]
  rfl
 ·simp only [GZ,go_sem,↓reduceIte]
 ·simp only [GZ,go_sem,↓reduceIte]
 ·simp only [GZ,go_sem,↓reduceIte,EM]
theorem fzD (t:A2):Fz [vD t]:=fun _ _=>rfl
theorem Kh (t:A2) (ht:A8 t):VP V ZM [vT t] Q↔Q (lW (Ar t.nodes.length fun a b=>AN t a b)):=by
 refine Ad ?_
 rw [Ac C.c_z19.1 C.c_z19.2]
 have s1:=fun (Q:VV→Prop)=>PO C t ht (Q:=Q)
 have s2:=fun (Q:VV→Prop)=>Qk C t ht.n64 (gf:=ZU) (fzD C t) Fz.nil (fun a b=>AN t a b) (fun i j hi hj=>(SR C t ht hi hj).2 rfl) (Q:=Q)
 simp only [A8W,A4y,go_sem,↓reduceIte,s1,s2]
theorem Uy (t:A2) (ht:A8 t):VP V A00 [vT t] Q↔Q (lW (Ar t.nodes.length fun a b=>AE t a b)):=by
 refine Ad ?_
 rw [Ac C.c_z96.1 C.c_z96.2]
 have s1:=fun (Q:VV→Prop)=>PO C t ht (Q:=Q)
 have s2:=fun (Q:VV→Prop)=>Qk C t ht.n64 (gf:=S0) (fzD C t) Fz.nil (fun a b=>AE t a b) (fun i j hi hj=>(TC C t ht hi hj).2 rfl) (Q:=Q)
 simp only [A9z,A4P,go_sem,↓reduceIte,s1,s2]
theorem Ye (t:A2) (ht:A8 t):VP V ZN [vT t] Q↔Q (vW (Gc t)):=by
 refine Ad ?_
 rw [Ac C.c_z22.1 C.c_z22.2]
 have s1:=fun (Q:VV→Prop)=>PO C t ht (Q:=Q)
 have s2:=fun (Q:VV→Prop)=>A3y C t ht.n64 (gf:=ZV) (fzD C t) Fz.nil (fun a=>decide ((t.at a).up < 0)) (fun i hi=>(Yf C t hi).2 rfl) (Q:=Q)
 simp only [A8Z,A4A,go_sem,↓reduceIte,s1,s2]
 rfl
end
def nw (n:Nat):AV:=.i .u64 (n:Int)
theorem PF {e:Option Qo} (n k m:Nat) (h:k < 64) (hm:2 ^ k=m):B9 .shr e (nw n) (.i .u64 k)=some (nw (n / m)):=by
 have:=A8d (e:=e) (a:=BitVec.ofNat 64 n) h
 have h0:¬ ((k:Int) < 0):=by omega
 simp only [nw,B9,GN,if_neg h0,IntKind.bits,Option.some.injEq,AV.i.injEq,true_and,Int.toNat_natCast]
 rw [Nat.min_eq_left (by omega)]
 rw [show ((2:Int) ^ k)=((2 ^ k:Nat):Int) by simp,Int.fdiv_eq_ediv_of_nonneg _ (Int.natCast_nonneg _),hm]
 rfl
theorem Sc {e:Option Qo} (n m:Nat) (hn:n < 18446744073709551616) (hm:m < 18446744073709551616):B9 .and e (nw n) (nw m)=some (nw (n &&& m)):=by
 have h:=YJ (e:=e) (a:=BitVec.ofNat 64 n) (b:=BitVec.ofNat 64 m)
 have e1:Wd (BitVec.ofNat 64 n)=nw n:=by unfold Wd nw;rw [BitVec.toNat_ofNat,Nat.mod_eq_of_lt hn]
 have e2:Wd (BitVec.ofNat 64 m)=nw m:=by unfold Wd nw;rw [BitVec.toNat_ofNat,Nat.mod_eq_of_lt hm]
 rw [e1,e2] at h
 rw [h]
 congr 1
 unfold Wd nw
 rw [BitVec.toNat_and,BitVec.toNat_ofNat,BitVec.toNat_ofNat,Nat.mod_eq_of_lt hn,Nat.mod_eq_of_lt hm]
theorem PE {e:Option Qo} (n m:Nat) (h:n+m < 18446744073709551616):B9 .add e (nw n) (nw m)=some (nw (n+m)):=by
 simp only [nw,B9,Gb,if_true,Ju,Option.some.injEq,AV.i.injEq,true_and]
 omega
def wv (n:Nat):VV:=.i .u64 (n:Int)
theorem Dw {op:BinOp} {e:Option Qo} {a b c:Nat} (h:B9 op e (nw a) (nw b)=some (nw c)):B5 op e (wv a) (wv b)=some (wv c):=by
 show (B9 op e (nw a) (nw b)).bind Gx=_
 rw [h];rfl
section
variable {V:Am} (C:Au V) {Q:VV→Prop}
include C
set_option maxHeartbeats 2000000 in
theorem SZ (w:BitVec 64):VP V Wy [vW w] Q↔Q (.i .i64 ((C1 w).length:Nat)):=by
 refine Ad ?_
 rw [Ac C.c_z106.1 C.c_z106.2]
 have hw:vW w=wv w.toNat:=rfl
 have hx:=w.isLt
 obtain ⟨l1,l2,l3,l4,l5,l6,l7⟩:=AoM hx
 have hp:=A78 w
 rw [hw]
 generalize w.toNat=x at *
 have c0:VV.i .u64 6148914691236517205=wv 6148914691236517205:=rfl
 have c1:VV.i .u64 3689348814741910323=wv 3689348814741910323:=rfl
 have c2:VV.i .u64 1085102592571150095=wv 1085102592571150095:=rfl
 have k2:VV.i .u64 2=wv 2:=rfl
 have k4:VV.i .u64 4=wv 4:=rfl
 have k8:VV.i .u64 8=wv 8:=rfl
 have k16:VV.i .u64 16=wv 16:=rfl
 have k32:VV.i .u64 32=wv 32:=rfl
 have k1:vW 1#64=wv 1:=rfl
 have t1:∀ e n,B5 .shr e (wv n) (wv 1)=some (wv (n / 2)):=fun e n=>Dw (PF n 1 2 (by omega) rfl)
 have t2:∀ e n,B5 .shr e (wv n) (wv 2)=some (wv (n / 4)):=fun e n=>Dw (PF n 2 4 (by omega) rfl)
 have t4:∀ e n,B5 .shr e (wv n) (wv 4)=some (wv (n / 16)):=fun e n=>Dw (PF n 4 16 (by omega) rfl)
 have t8:∀ e n,B5 .shr e (wv n) (wv 8)=some (wv (n / 256)):=fun e n=>Dw (PF n 8 256 (by omega) rfl)
 have t16:∀ e n,B5 .shr e (wv n) (wv 16)=some (wv (n / 65536)):=fun e n=>Dw (PF n 16 65536 (by omega) rfl)
 have t32:∀ e n,B5 .shr e (wv n) (wv 32)=some (wv (n / 4294967296)):=fun e n=>Dw (PF n 32 4294967296 (by omega) rfl)
 have b1:∀ e,B5 .and e (wv (x / 2)) (wv 6148914691236517205)=some (wv (x / 2 &&& 6148914691236517205)):=fun e=>Dw (Sc _ _ (by omega) (by omega))
 have b2:∀ e,B5 .and e (wv x) (wv 6148914691236517205)=some (wv (x &&& 6148914691236517205)):=fun e=>Dw (Sc _ _ (by omega) (by omega))
 have b3:∀ e,B5 .add e (wv (x / 2 &&& 6148914691236517205)) (wv (x &&& 6148914691236517205))=some (wv (s1 x)):=fun e=>Dw (PE _ _ l1)
 generalize hy1:s1 x=y1 at *
 have d1:∀ e,B5 .and e (wv (y1 / 4)) (wv 3689348814741910323)=some (wv (y1 / 4 &&& 3689348814741910323)):=fun e=>Dw (Sc _ _ (by omega) (by omega))
 have d2:∀ e,B5 .and e (wv y1) (wv 3689348814741910323)=some (wv (y1 &&& 3689348814741910323)):=fun e=>Dw (Sc _ _ (by omega) (by omega))
 have d3:∀ e,B5 .add e (wv (y1 / 4 &&& 3689348814741910323)) (wv (y1 &&& 3689348814741910323))=some (wv (s2 y1)):=fun e=>Dw (PE _ _ l2)
 generalize hy2:s2 y1=y2 at *
 have f1:∀ e,B5 .add e (wv (y2 / 16)) (wv y2)=some (wv (y2 / 16+y2)):=fun e=>Dw (PE _ _ l3)
 have f2:∀ e,B5 .and e (wv (y2 / 16+y2)) (wv 1085102592571150095)=some (wv (s3 y2)):=fun e=>Dw (Sc _ _ l3 (by omega))
 generalize hy3:s3 y2=y3 at *
 have g1:∀ e,B5 .add e (wv y3) (wv (y3 / 256))=some (wv (s4 y3)):=fun e=>Dw (PE _ _ l5)
 generalize hy4:s4 y3=y4 at *
 have g2:∀ e,B5 .add e (wv y4) (wv (y4 / 65536))=some (wv (s5 y4)):=fun e=>Dw (PE _ _ l6)
 generalize hy5:s5 y4=y5 at *
 have g3:∀ e,B5 .add e (wv y5) (wv (y5 / 4294967296))=some (wv (s6 y5)):=fun e=>Dw (PE _ _ (by have:s6 y5=y5+y5 / 4294967296:=rfl;omega))
 generalize hy6:s6 y5=y6 at *
 have g4:∀ e,B5 .and e (.i .i64 (IntKind.i64.wrap (y6:Int))) (.i .i64 127)=some (.i .i64 ((y6 % 128:Nat):Int)):=by
  intro e
  rw [AC (by omega) (by omega)]
  have w2:(BitVec.ofInt 64 (y6:Int)).toNat=y6:=by
   rw [BitVec.ofInt_natCast,BitVec.toNat_ofNat]
   exact Nat.mod_eq_of_lt (by omega)
  have w3:(BitVec.ofInt 64 127).toNat=127:=rfl
  have w4:y6 &&& 127=y6 % 128:=Nat.and_two_pow_sub_one_eq_mod y6 7
  have w5:(BitVec.ofInt 64 (y6:Int) &&& BitVec.ofInt 64 127).toNat=y6 % 128:=by
   rw [BitVec.toNat_and,w2,w3,w4]
  have h:B9 .and e (.i .i64 (y6:Int)) (.i .i64 127)=some (.i .i64 ((y6 % 128:Nat):Int)):=by
   simp only [B9,Gb,if_true,Option.some.injEq,AV.i.injEq,true_and]
   show IntKind.i64.wrap (((BitVec.ofInt 64 (y6:Int) &&& BitVec.ofInt 64 127).toNat:Nat):Int)=_
   rw [w5,AC (by omega) (by omega)]
  show (B9 .and e (.i .i64 (y6:Int)) (.i .i64 127)).bind Gx=_
  rw [h];rfl
 have hcv:∀ h,A8q .i64 (wv y6) h=some (.i .i64 (IntKind.i64.wrap (y6:Int)),h):=fun _=>rfl
 simp only [A1d,VE,go_sem,↓reduceIte,c0,c1,c2,k1,k2,k4,k8,k16,k32,t1,t2,t4,t8,t16,t32,b1,b2,b3,d1,d2,d3,f1,f2,g1,g2,g3,hcv,g4,hp]
theorem Jz (w:BitVec 64):VP V A5k [vW w] Q↔Q (.i .i64 ((C1 w).length:Nat)):=by
 refine Ad ?_
 rw [Ac C.c_z57.1 C.c_z57.2]
 simp only [A9k,A4J,go_sem,↓reduceIte,SZ C]
end
abbrev cfL (t:A2):Rows:=Ar t.nodes.length fun a b=>AN t a b
abbrev YU (t:A2) (s:A5):List VV:=[.i .i64 t.vals,lS t.locs,.ls (t.regs.map J9),.ls (t.nodes.map eN),lI s.has,lI s.jf,.ls (s.mo.map EB),vW (Cj s.has),lW (cfL t)]
theorem Ak4:min 4 9=4:=rfl
theorem mn3:min 3 5=3:=rfl
section
variable {V:Am} (C:Au V) {Q:VV→Prop}
include C
theorem A3p (t:A2) (ht:A8 t) (s:A5) (hs:Hq s):VP V A5p [vT t,J6 s] Q↔Q (.fp (YU t s) 0):=by
 refine Ad ?_
 rw [Ac C.c_z71.1 C.c_z71.2]
 have hh:=hs.has
 have s1:=fun (Q:VV→Prop)=>Kh C t ht (Q:=Q)
 simp only [A9s,A4M,go_sem,↓reduceIte,s1,Ll C s.has (by omega),Ak4,mn3]
theorem J2 (t:A2) (ht:A8 t) (s:A5) (hn:CH t s.has) (n loc:Int):VP V WH [.fp (YU t s) 0,.i .i64 n,.i .i64 loc] Q↔Q (.b (Bm t s.has n loc)):=by
 refine Ad ?_
 rw [Ac C.c_z118.1 C.c_z118.2]
 have h64:=ht.n64
 cases c1:B2 s.has n with
 | false =>
  simp only [V6,RH,go_sem,↓reduceIte,AD C,hn.has h64,c1]
  simp [Bm,c1]
 | true =>
  obtain ⟨m,rfl,hm⟩:=Aa (hn n (A9.1 c1))
  have e:Bm t s.has m loc=(decide ((t.at m).kind=3) && decide ((t.at m).loc=loc)):=by
   unfold Bm HM;rw [c1,Int.toNat_natCast,Bool.true_and]
  cases c2:decide ((t.at m).kind=3)<;>cases c3:decide ((t.at m).loc=loc)<;>rw [c2,c3] at e <;>
   simp only [V6,RH,go_sem,↓reduceIte,AD C,hn.has h64,c1,A6 hm,c2,c3]<;>first | exact e.symm | (rw [e];rfl)
set_option maxHeartbeats 4000000 in
theorem Tz (t:A2) (ht:A8 t) (s:A5) (n:Nat) (hn:n < t.nodes.length) (l:List Int) (hl:l.length≤1000) (hv:CH t l):VP V X4 [.fp (YU t s) 0,.i .i64 n,lI l] Q↔Q (.b (l.all fun m=>AU t n m)):=by
 refine Ad ?_
 rw [Ac C.c_z156.1 C.c_z156.2]
 have h64:=ht.n64
 simp only [A1F,EF,go_sem,↓reduceIte]
 refine Ae (by decide) l.length (by omega) (I:=fun k F h=>A4.tmp F 0 = .fp (YU t s) 0∧A4.tmp F 1 = .i .i64 n∧A4.tmp F 11=lI l∧h=[]∧∀ (j:Nat) (hj:j < l.length),j < k→AU t n l[j]=true) ?_ ?_ 0 _ _ (by omega) ?_ ?_ ?_
 ·rintro k F h hk p13 p12 ⟨p0,p1,p11,rfl,p2⟩
  obtain ⟨m,hm1,hm⟩:=Aa (hv l[k] (List.getElem_mem hk))
  have hgk:l[k]? = some (m:Int):=by rw [List.getElem?_eq_getElem hk,hm1]
  have e:AU t n m=(D0 (t.at n) && D0 (t.at m) && decide ((t.at n).val=(t.at m).val) && AN t n m):=by
   unfold AU;rw [Int.toNat_natCast,Int.toNat_natCast]
  have hcf:(cfL t)[n]? = some (BS fun b=>decide (b < t.nodes.length) && AN t n b):=Bi hn
  have hhas:Bv (BS fun b=>decide (b < t.nodes.length) && AN t n b) (m:Int)=AN t n m:=by
   have:=Jm (p:=fun a b=>AN t a b) h64 hn hm
   rw [List.getD_eq_getElem?_getD,Bi hn,Option.getD_some] at this
   exact this
  have bad:AU t n m=false→false=l.all fun m=>AU t n m:=fun h=>by
   rw [eq_comm,List.all_eq_false]
   exact ⟨l[k],List.getElem_mem hk,by rw [hm1,h];simp⟩
  have good:AU t n m=true→∀ (j:Nat) (hj:j < l.length),j < k+1→AU t n l[j]=true:=fun h j hj hjk=>by
   by_cases e:j=k
   ·subst e;rw [hm1];exact h
   ·exact p2 j hj (by omega)
  cases c1:D0 (t.at n) with
  | false =>
   simp only [EF,go_sem,↓reduceIte,p13,p12,p0,p1,p11,hk,hgk,A6 hn,A6 hm,C2 C,c1,A0]
   exact bad (by rw [e,c1];rfl)
  | true =>
  cases c2:D0 (t.at m) with
  | false =>
   simp only [EF,go_sem,↓reduceIte,p13,p12,p0,p1,p11,hk,hgk,A6 hn,A6 hm,C2 C,c1,c2,A0]
   exact bad (by rw [e,c1,c2];rfl)
  | true =>
  cases c3:decide ((t.at n).val=(t.at m).val) with
  | false =>
   simp only [EF,go_sem,↓reduceIte,p13,p12,p0,p1,p11,hk,hgk,A6 hn,A6 hm,C2 C,c1,c2,c3,A0]
   exact bad (by rw [e,c1,c2,c3];rfl)
  | true =>
  cases c4:AN t n m with
  | false =>
   simp only [EF,go_sem,↓reduceIte,p13,p12,p0,p1,p11,hk,hgk,A6 hn,A6 hm,C2 C,c1,c2,c3,hcf,AD C,hhas,c4,A0]
   exact bad (by rw [e,c1,c2,c3,c4];rfl)
  | true =>
   simp only [EF,go_sem,↓reduceIte,p13,p12,p0,p1,p11,hk,hgk,A6 hn,A6 hm,C2 C,c1,c2,c3,hcf,AD C,hhas,c4,A0]
   exact good (by rw [e,c1,c2,c3,c4];rfl)
 ·rintro F h ⟨p0,p1,p11,rfl,p2⟩
  simp only [EF,go_sem,↓reduceIte,p0,p1,p11]
  rw [eq_comm,List.all_eq_true]
  intro x hx
  obtain ⟨j,hj,rfl⟩:=List.mem_iff_getElem.1 hx
  exact p2 j hj hj
 ·simp only [EF,go_sem,↓reduceIte]
 ·simp only [EF,go_sem,↓reduceIte]
 ·simp only [EF,go_sem,↓reduceIte]
  intro j hj hjk;omega
set_option maxHeartbeats 4000000 in
theorem Ty (t:A2) (ht:A8 t) (s:A5) (hn:CH t s.has) (l:List Int) (hl:l.length≤1000) (loc:Int):VP V WJ [.fp (YU t s) 0,lI l,.i .i64 loc] Q↔Q (.b (Ey t l s.has loc)):=by
 refine Ad ?_
 rw [Ac C.c_z120.1 C.c_z120.2]
 have h64:=ht.n64
 simp only [A1k,Do,go_sem,↓reduceIte]
 refine Ae (by decide) l.length (by omega) (I:=fun k F h=>A4.tmp F 0 = .fp (YU t s) 0∧A4.tmp F 1=lI l∧A4.tmp F 2 = .i .i64 loc∧A4.tmp F 9=lI l∧h=[]∧∀ j,j < k→Ed t l s.has loc j=true) ?_ ?_ 0 _ _ (by omega) ?_ ?_ ?_
 ·rintro k F h hk p11 p10 ⟨p0,p1,p2,p9,rfl,p3⟩
  have bad:Ed t l s.has loc k=false→false=Ey t l s.has loc:=fun h=>by rw [Ey,BF hk h];rfl
  have hw:=fun (n loc:Int) (Q:VV→Prop)=>J2 C t ht s hn n loc (Q:=Q)
  cases c1:Bm t s.has (l.getD k 0) loc with
  | false =>
   simp only [Do,go_sem,↓reduceIte,p11,p10,p0,p1,p2,p9,Az hk,hk,hw,c1,A0]
   exact bad (by rw [Ed,c1];rfl)
  | true =>
  have c1':B2 s.has (l.getD k 0)=true:=by simp only [Bm,Bool.and_eq_true] at c1;exact c1.1
  obtain ⟨m,hm1,hm⟩:=Aa (hn _ (A9.1 c1'))
  have e0:Ed t l s.has loc k=(decide (0≤(t.at m).thread) && D1 l k && (!decide (1 < l.length) || D0 (t.at m)) && (decide (k=0) || (l.take k).all fun x=>AU t m x)):=by
   unfold Ed;rw [c1,hm1,Int.toNat_natCast];rfl
  have hris:D1 l k=(decide (k=0) || decide (l.getD (k - 1) 0 < (m:Int))):=by rw [D1,hm1]
  rw [hm1] at c1
  cases c2:decide ((t.at m).thread < 0) with
  | true =>
   simp only [Do,go_sem,↓reduceIte,p11,p10,p0,p1,p2,p9,Az hk,hk,hw,c1,A0,hm1,A6 hm,c2]
   have:decide (0≤(t.at m).thread)=false:=by have:=of_decide_eq_true c2;exact decide_eq_false (by omega)
   exact bad (by rw [e0,this];rfl)
  | false =>
  have c2':decide (0≤(t.at m).thread)=true:=by have:=of_decide_eq_false c2;exact decide_eq_true (by omega)
  rw [c2',Bool.true_and] at e0
  have pl:∀ b,decide ((1:Int) < l.length)=b→decide (1 < l.length)=b:=fun b h=>by rw [← h];congr 1;exact propext ⟨fun h=>by omega,fun h=>by omega⟩
  by_cases z:k=0
  ·subst z
   have r0:D1 l 0=true:=by rw [hris];rfl
   rw [r0,Bool.true_and] at e0
   cases c5:decide ((1:Int) < l.length) with
   | false =>
    rw [pl _ c5] at e0
    simp only [Do,go_sem,↓reduceIte,p11,p10,p0,p1,p2,p9,Az hk,hk,hw,c1,A0,hm1,A6 hm,c2,c5,dz0]
    exact Gl p3 (by rw [e0];rfl)
   | true =>
    rw [pl _ c5] at e0
    cases c6:D0 (t.at m) with
    | false =>
     simp only [Do,go_sem,↓reduceIte,p11,p10,p0,p1,p2,p9,Az hk,hk,hw,c1,A0,hm1,A6 hm,c2,c5,c6,dz0,C2 C]
     exact bad (by rw [e0,c6];rfl)
    | true =>
     simp only [Do,go_sem,↓reduceIte,p11,p10,p0,p1,p2,p9,Az hk,hk,hw,c1,A0,hm1,A6 hm,c2,c5,c6,dz0,C2 C]
     exact Gl p3 (by rw [e0,c6];rfl)
  ·have z0:decide ((0:Int) < (k:Int))=true:=decide_eq_true (by omega)
   have hk1:k - 1 < l.length:=by omega
   have zw:=Hg (show 0 < k by omega) (by omega)
   have hl1:decide ((1:Int) < l.length)=true:=decide_eq_true (by omega)
   rw [pl _ hl1,decide_eq_false z,Bool.false_or] at e0
   rw [decide_eq_false z,Bool.false_or] at hris
   have hvk:CH t (l.take k):=by
    intro x hx
    obtain ⟨j,hj,rfl⟩:=List.mem_iff_getElem.1 hx
    rw [List.length_take] at hj
    rw [List.getElem_take]
    have:=p3 j (by omega)
    simp only [Ed,Bm,Bool.and_eq_true] at this
    have:=hn _ (A9.1 this.1.1.1.1.1)
    rw [List.getD_eq_getElem?_getD,List.getElem?_eq_getElem (by omega)] at this
    exact this
   have hkl:k≤l.length:=by omega
   have heq:=fun (Q:VV→Prop)=>Tz C t ht s m hm (l.take k) (by rw [List.length_take];omega) hvk (Q:=Q)
   cases c4:decide ((m:Int)≤l.getD (k - 1) 0) with
   | true =>
    have r1:D1 l k=false:=by rw [hris];have:=of_decide_eq_true c4;exact decide_eq_false (by omega)
    simp only [Do,go_sem,↓reduceIte,p11,p10,p0,p1,p2,p9,Az hk,Az hk1,hk,hw,c1,A0,hm1,A6 hm,c2,z0,zw,c4]
    exact bad (by rw [e0,r1];rfl)
   | false =>
    have r1:D1 l k=true:=by rw [hris];have:=of_decide_eq_false c4;exact decide_eq_true (by omega)
    rw [r1,Bool.true_and] at e0
    cases c6:D0 (t.at m) with
    | false =>
     simp only [Do,go_sem,↓reduceIte,p11,p10,p0,p1,p2,p9,Az hk,Az hk1,hk,hw,c1,A0,hm1,A6 hm,c2,z0,zw,c4,hl1,c6,C2 C]
     exact bad (by rw [e0,c6];rfl)
    | true =>
     rw [c6,Bool.or_true,Bool.true_and] at e0
     cases c7:(l.take k).all fun x=>AU t m x with
     | false =>
      simp only [Do,go_sem,↓reduceIte,p11,p10,p0,p1,p2,p9,Az hk,Az hk1,hk,hw,c1,A0,hm1,A6 hm,c2,z0,zw,c4,hl1,c6,C2 C,heq,c7,hkl]
      exact bad (by rw [e0];exact c7)
     | true =>
      simp only [Do,go_sem,↓reduceIte,p11,p10,p0,p1,p2,p9,Az hk,Az hk1,hk,hw,c1,A0,hm1,A6 hm,c2,z0,zw,c4,hl1,c6,C2 C,heq,c7,hkl]
      exact Gl p3 (by rw [e0];exact c7)
 ·rintro F h ⟨p0,p1,p2,p9,rfl,p3⟩
  simp only [Do,go_sem,↓reduceIte,p0,p1,p2,p9]
  rw [Ey,BG p3]
  simp
 ·simp only [Do,go_sem,↓reduceIte]
 ·simp only [Do,go_sem,↓reduceIte]
 ·simp only [Do,go_sem,↓reduceIte]
  intro j hj;omega
set_option maxHeartbeats 4000000 in
theorem TA (t:A2) (ht:A8 t) (s:A5) (hs:Hq s):VP V ZX [.fp (YU t s) 0] Q↔Q (.b (Cc t s.has)):=by
 refine Ad ?_
 rw [Ac C.c_z72.1 C.c_z72.2]
 have h64:=ht.n64
 have hh:=hs.has
 generalize hl:s.has=l at *
 simp only [A9t,EX,go_sem,↓reduceIte,hl]
 refine Ae (by decide) l.length (by omega) (I:=fun k F h=>A4.tmp F 0 = .fp (YU t s) 0∧A4.tmp F 10=lI l∧h=[]∧∀ j,j < k→C9 t l j=true) ?_ ?_ 0 _ _ (by omega) ?_ ?_ ?_
 ·rintro k F h hk p12 p11 ⟨p0,p10,rfl,p3⟩
  have bad:C9 t l k=false→false=Cc t l:=fun h=>by rw [Cc,BF hk h];rfl
  cases c0:BI t (l.getD k 0) with
  | false =>
   have cc:decide (l.getD k 0 < 0)=true∨(decide (l.getD k 0 < 0)=false∧decide ((t.nodes.length:Int)≤l.getD k 0)=true):=by
    simp only [BI,Bool.and_eq_false_iff,decide_eq_false_iff_not] at c0
    by_cases d:l.getD k 0 < 0
    ·exact .inl (decide_eq_true d)
    ·exact .inr ⟨decide_eq_false d,decide_eq_true (by omega)⟩
   rcases cc with cc | ⟨cc,cc2⟩
   ·simp only [EX,go_sem,↓reduceIte,p12,p11,p0,p10,Az hk,hk,cc,A0,hl]
    exact bad (by rw [C9,c0];rfl)
   ·simp only [EX,go_sem,↓reduceIte,p12,p11,p0,p10,Az hk,hk,cc,cc2,A0,hl]
    exact bad (by rw [C9,c0];rfl)
  | true =>
  obtain ⟨m,hm1,hm⟩:=Aa c0
  have q1:decide ((m:Int) < 0)=false:=decide_eq_false (by omega)
  have q2:decide ((t.nodes.length:Int)≤m)=false:=decide_eq_false (by omega)
  have q3:decide (t.nodes.length≤m)=false:=decide_eq_false (by omega)
  have hup:=ht.up m hm
  have e0:C9 t l k=(D1 l k && (decide ((t.at m).up < 0) || B2 l (t.at m).up)):=by
   unfold C9;rw [c0,hm1,Int.toNat_natCast,Bool.true_and]
  have hris:D1 l k=(decide (k=0) || decide (l.getD (k - 1) 0 < (m:Int))):=by rw [D1,hm1]
  have upc:(decide (0≤(t.at m).up)=true∧decide ((t.at m).up < 0)=false∧Bv (Cj l) (t.at m).up=B2 l (t.at m).up)∨(decide (0≤(t.at m).up)=false∧decide ((t.at m).up < 0)=true):=by
   by_cases d:0≤(t.at m).up
   ·exact .inl ⟨decide_eq_true d,decide_eq_false (by omega),LG l d (by omega)⟩
   ·exact .inr ⟨decide_eq_false d,decide_eq_true (by omega)⟩
  have zc:(decide ((0:Int) < (k:Int))=false∧D1 l k=true)∨(decide ((0:Int) < (k:Int))=true∧0 < k∧D1 l k=decide (l.getD (k - 1) 0 < (m:Int))):=by
   by_cases z:k=0
   ·subst z;exact .inl ⟨rfl,by rw [hris];rfl⟩
   ·exact .inr ⟨decide_eq_true (by omega),by omega,by rw [hris,decide_eq_false z,Bool.false_or]⟩
  rcases zc with ⟨z0,r1⟩ | ⟨z0,zp,r0⟩
  ·rw [r1,Bool.true_and] at e0
   rcases upc with ⟨u1,u2,u3⟩ | ⟨u1,u2⟩
   ·rw [u2,Bool.false_or] at e0
    cases c5:B2 l (t.at m).up with
    | false =>
     simp only [EX,go_sem,↓reduceIte,p12,p11,p0,p10,Az hk,hk,hm1,q1,q2,q3,z0,A6 hm,u1,u3,c5,A0,AD C,hl]
     exact bad (by rw [e0,c5])
    | true =>
     simp only [EX,go_sem,↓reduceIte,p12,p11,p0,p10,Az hk,hk,hm1,q1,q2,q3,z0,A6 hm,u1,u3,c5,A0,AD C,hl]
     exact Gl p3 (by rw [e0,c5])
   ·simp only [EX,go_sem,↓reduceIte,p12,p11,p0,p10,Az hk,hk,hm1,q1,q2,q3,z0,A6 hm,u1,A0,AD C,hl]
    exact Gl p3 (by rw [e0,u2];rfl)
  ·have hk1:k - 1 < l.length:=by omega
   have zw:=Hg zp (by omega)
   cases c4:decide ((m:Int)≤l.getD (k - 1) 0) with
   | true =>
    have r1:D1 l k=false:=by rw [r0];have:=of_decide_eq_true c4;exact decide_eq_false (by omega)
    simp only [EX,go_sem,↓reduceIte,p12,p11,p0,p10,Az hk,Az hk1,hk,hm1,q1,q2,q3,z0,zw,c4,A0,hl]
    exact bad (by rw [e0,r1];rfl)
   | false =>
    have r1:D1 l k=true:=by rw [r0];have:=of_decide_eq_false c4;exact decide_eq_true (by omega)
    rw [r1,Bool.true_and] at e0
    rcases upc with ⟨u1,u2,u3⟩ | ⟨u1,u2⟩
    ·rw [u2,Bool.false_or] at e0
     cases c5:B2 l (t.at m).up with
     | false =>
      simp only [EX,go_sem,↓reduceIte,p12,p11,p0,p10,Az hk,Az hk1,hk,hm1,q1,q2,q3,z0,zw,c4,A6 hm,u1,u3,c5,A0,AD C,hl]
      exact bad (by rw [e0,c5])
     | true =>
      simp only [EX,go_sem,↓reduceIte,p12,p11,p0,p10,Az hk,Az hk1,hk,hm1,q1,q2,q3,z0,zw,c4,A6 hm,u1,u3,c5,A0,AD C,hl]
      exact Gl p3 (by rw [e0,c5])
    ·simp only [EX,go_sem,↓reduceIte,p12,p11,p0,p10,Az hk,Az hk1,hk,hm1,q1,q2,q3,z0,zw,c4,A6 hm,u1,A0,AD C,hl]
     exact Gl p3 (by rw [e0,u2];rfl)
 ·rintro F h ⟨p0,p10,rfl,p3⟩
  have s1:=fun (Q:VV→Prop)=>Ye C t ht (Q:=Q)
  simp only [EX,go_sem,↓reduceIte,p0,p10,s1,M0 C,hl]
  rw [Cc,BG p3,A7y,Bool.true_and]
 ·simp only [EX,go_sem,↓reduceIte,hl]
 ·simp only [EX,go_sem,↓reduceIte,hl]
 ·simp only [EX,go_sem,↓reduceIte,hl]
  intro j hj;omega
set_option maxHeartbeats 4000000 in
theorem NT (t:A2) (ht:A8 t) (s:A5) (hs:Hq s) (hn:CH t s.has):VP V ZY [.fp (YU t s) 0] Q↔Q (.b (M5 t s)):=by
 refine Ad ?_
 rw [Ac C.c_z73.1 C.c_z73.2]
 have h64:=ht.n64
 have hh:=hs.has
 by_cases c2:¬ s.jf.length=s.has.length
 ·have c2':¬ (s.jf.length:Int)=s.has.length:=by omega
  simp only [A48,Hz,go_sem,↓reduceIte,c2']
  rw [M5,decide_eq_false c2];rfl
 have c2:=Decidable.not_not.1 c2
 have c2':(s.jf.length:Int)=s.has.length:=by omega
 simp only [A48,Hz,go_sem,↓reduceIte,c2']
 refine Ae (by decide) s.has.length (by omega) (I:=fun k F h=>A4.tmp F 0 = .fp (YU t s) 0∧A4.tmp F 24=lI s.has∧h=[]∧∀ j,j < k→GU t s j=true) ?_ ?_ 0 _ _ (by omega) ?_ ?_ ?_
 ·rintro k F h hk p26 p25 ⟨p0,p24,rfl,p3⟩
  have bad:GU t s k=false→false=M5 t s:=fun h=>by rw [M5,BF hk h,Bool.and_false]
  have hkj:k < s.jf.length:=by omega
  have hw:=fun (n loc:Int) (Q:VV→Prop)=>J2 C t ht s hn n loc (Q:=Q)
  obtain ⟨n,hn1,hn2⟩:=Aa (hn _ (Ap (d:=0) hk))
  have hok:GU t s k=if (t.at n).kind=2 then B2 s.has (s.jf.getD k 0) && HM t (s.jf.getD k 0) (t.at n).loc && decide ((t.at (s.jf.getD k 0).toNat).val=(t.at n).val) else decide (s.jf.getD k 0 = -1):=by
   unfold GU;rw [hn1,Int.toNat_natCast]
  by_cases k2:(t.at n).kind=2
  ·rw [if_pos k2] at hok
   cases w1:Bm t s.has (s.jf.getD k 0) (t.at n).loc with
   | false =>
    simp only [Hz,go_sem,↓reduceIte,p26,p25,p0,p24,Az hk,hk,Az hkj,hkj,hn1,A6 hn2,k2,hw,w1,A0]
    exact bad (by rw [hok,show (B2 s.has (s.jf.getD k 0) && HM t (s.jf.getD k 0) (t.at n).loc)=Bm t s.has (s.jf.getD k 0) (t.at n).loc from rfl,w1];rfl)
   | true =>
   have w2:B2 s.has (s.jf.getD k 0)=true:=by simp only [Bm,Bool.and_eq_true] at w1;exact w1.1
   obtain ⟨m,hm1,hm2⟩:=Aa (hn _ (A9.1 w2))
   have hok2:GU t s k=decide ((t.at m).val=(t.at n).val):=by
    rw [hok,show (B2 s.has (s.jf.getD k 0) && HM t (s.jf.getD k 0) (t.at n).loc)=Bm t s.has (s.jf.getD k 0) (t.at n).loc from rfl,w1,hm1,Int.toNat_natCast,Bool.true_and]
   rw [hm1] at w1
   cases x3:decide ((t.at m).val=(t.at n).val) with
   | false =>
    simp only [Hz,go_sem,↓reduceIte,p26,p25,p0,p24,Az hk,hk,Az hkj,hkj,hn1,A6 hn2,k2,hw,w1,hm1,A6 hm2,x3,A0]
    exact bad (by rw [hok2,x3])
   | true =>
    simp only [Hz,go_sem,↓reduceIte,p26,p25,p0,p24,Az hk,hk,Az hkj,hkj,hn1,A6 hn2,k2,hw,w1,hm1,A6 hm2,x3,A0]
    exact Gl p3 (by rw [hok2,x3])
  ·rw [if_neg k2] at hok
   cases w1:decide (s.jf.getD k 0 = -1) with
   | false =>
    simp only [Hz,go_sem,↓reduceIte,p26,p25,p0,p24,Az hk,hk,Az hkj,hkj,hn1,A6 hn2,k2,w1,A0]
    exact bad (by rw [hok,w1])
   | true =>
    simp only [Hz,go_sem,↓reduceIte,p26,p25,p0,p24,Az hk,hk,Az hkj,hkj,hn1,A6 hn2,k2,w1,A0]
    exact Gl p3 (by rw [hok,w1])
 ·rintro F h ⟨p0,p24,rfl,p3⟩
  simp only [Hz,go_sem,↓reduceIte,p0,p24]
  rw [M5,decide_eq_true c2,BG p3];rfl
 ·simp only [Hz,go_sem,↓reduceIte]
 ·simp only [Hz,go_sem,↓reduceIte]
 ·simp only [Hz,go_sem,↓reduceIte]
  intro j hj;omega
end
abbrev hAl (i:Nat) (l:List Int):VH:=[some ⟨AG,1,i,false,l.map eI⟩]
theorem A4j:∀ (l:List (List Int)),(∀ c∈l,c.length≤1000)→l.flatten.length≤1000 * l.length:=by
 intro l
 induction l with
 | nil=>intro _;simp
 | cons c l ih =>
  intro h
  have h1:=h c List.mem_cons_self
  have h2:=ih fun d hd=>h d (List.mem_cons_of_mem _ hd)
  rw [List.flatten_cons,List.length_append,List.length_cons]
  omega
theorem A7e (L:Nat) (l:List Int):(l.map eI).all (CT L)=true:=by
 rw [List.all_eq_true]
 intro r hr
 obtain ⟨x,_,rfl⟩:=List.mem_map.1 hr
 rfl
section
variable {V:Am} (C:Au V) {Q:VV→Prop}
include C
set_option maxHeartbeats 4000000 in
theorem SH (t:A2) (ht:A8 t) (s:A5) (hs:Hq s) (hn:CH t s.has):VP V ZZ [.fp (YU t s) 0] Q↔Q (.b (Ek t s)):=by
 refine Ad ?_
 rw [Ac C.c_z74.1 C.c_z74.2]
 have h64:=ht.n64
 have hh:=hs.has
 have hmo:=hs.mo
 by_cases c2:¬ s.mo.length=t.locs.length
 ·have c2':¬ (s.mo.length:Int)=t.locs.length:=by omega
  simp only [A49,CU,go_sem,↓reduceIte,c2']
  rw [Ek,decide_eq_false c2];rfl
 have c2:=Decidable.not_not.1 c2
 have c2':(s.mo.length:Int)=t.locs.length:=by omega
 simp only [A49,CU,go_sem,↓reduceIte,c2']
 refine Ae (by decide) s.mo.length (by omega) (I:=fun k F h=>A4.tmp F 0 = .fp (YU t s) 0∧A4.tmp F 28 = .ls (s.mo.map EB)∧h=[]∧∀ j,j < k→Mc t s j=true) ?_ ?_ 0 _ _ (by omega) ?_ ?_ ?_
 ·rintro k F h hk p30 p29 ⟨p0,p28,rfl,p3⟩
  have bad:Mc t s k=false→false=Ek t s:=fun h=>by rw [Ek,BF hk h,Bool.and_false]
  have hml:=hs.mi' k
  have hmc:=hs.mc' k
  have hgm:=Cv hk
  generalize hm:s.mo.getD k []=m at *
  by_cases z:m.length=0
  ·have z':(m.length:Int)=0:=by omega
   simp only [CU,go_sem,↓reduceIte,p30,p29,p0,p28,hgm,hk,z',A0]
   exact bad (by simp only [Mc,hm,z];simp)
  have z':¬ (m.length:Int)=0:=by omega
  have z0:0 < m.length:=by omega
  have heq:∀ (Q:VV→Prop),VP V RW [.ls ((m.getD 0 []).map eI),.ls [[.i .i64 k]]] Q↔Q (.b (decide (m.getD 0 []=[(k:Int)]))):=fun Q=>SJ C (m.getD 0 []) [(k:Int)] (by have:=hmc 0;omega) (Q:=Q)
  cases z3:decide (m.getD 0 []=[(k:Int)]) with
  | false =>
   simp only [CU,go_sem,↓reduceIte,p30,p29,p0,p28,hgm,hk,z',Hu z0,heq,z3,A0]
   exact bad (by simp only [Mc,hm,z3,Bool.and_false,Bool.false_and])
  | true =>
  have hN:1≤m.length:=z0
  obtain ⟨D,hD⟩:∃ D,D=m.drop 1:=⟨_,rfl⟩
  have hDl:D.length=m.length - 1:=by rw [hD,List.length_drop]
  have hdr:(m.drop 1).take (m.length - 1)=D:=by rw [← hD,List.take_of_length_le (by omega)]
  have hmin:min (m.length - 1) (m.length - 1)=D.length:=by rw [Nat.min_self,hDl]
  have hDc:∀ c∈D,c.length≤1000:=by
   intro c hc
   obtain ⟨i,hi,rfl⟩:=List.mem_iff_getElem.1 (List.mem_of_mem_drop (hD ▸ hc))
   have:=hmc i
   rw [List.getD_eq_getElem?_getD,List.getElem?_eq_getElem hi] at this
   exact this
  have hall:LO m k=(k:Int)::D.flatten:=by rw [LO,hD]
  have hpl:Mc t s k=(D.all (fun c=>Ey t c s.has k) && decide ((LO m k).length=Gq t s k) && decide ((C1 (Cj (LO m k))).length=Gq t s k)):=by
   simp only [Mc,hm,z3,decide_eq_false z,Bool.not_false,Bool.true_and,← hD]
  simp only [CU,go_sem,↓reduceIte,p30,p29,p0,p28,hgm,hk,z',Hu z0,heq,z3,hN,hdr,hmin,A0]
  refine Ae (by decide) D.length (by omega) (I:=fun i F h=>A4.tmp F 0 = .fp (YU t s) 0∧A4.tmp F 28 = .ls (s.mo.map EB)∧A4.tmp F 3 = .i .i64 k∧A4.tmp F 30 = .i .i64 k∧A4.tmp F 29 = .i .i64 s.mo.length∧A4.tmp F 50 = .ls (D.map M2)∧A4.tmp F 5 = .sl 0 i 0 ((D.take i).flatten.length+1)∧h=hAl i ((k:Int)::(D.take i).flatten)∧∀ (j:Nat) (hj:j < D.length),j < i→Ey t D[j] s.has k=true) ?_ ?_ 0 _ _ (by omega) ?_ ?_ ?_
  ·rintro i F h hi q52 q51 ⟨q0,q28,q3,q30,q29,q50,q5,rfl,q4⟩
   have hc1:=hDc _ (List.getElem_mem hi)
   have hcl:=fun (Q:VV→Prop)=>Ty C t ht s hn D[i] hc1 k (Q:=Q)
   have hgi:D[i]? = some D[i]:=List.getElem?_eq_getElem hi
   have hfl:=A4j (D.take i) (fun c hc=>hDc c (List.mem_of_mem_take hc))
   rw [List.length_take] at hfl
   have b1:((D.take i).flatten.length+1+D[i].length) * 8≤A7:=by unfold A7;omega
   have hst:(D.take (i+1)).flatten=(D.take i).flatten++D[i]:=by rw [List.take_succ_eq_append_getElem hi,List.flatten_append];simp
   cases c4:Ey t D[i] s.has k with
   | false =>
    simp only [CU,go_sem,↓reduceIte,q52,q51,q0,q28,q3,q30,q29,q50,q5,hi,hgi,hcl,c4,A0]
    exact bad (by rw [hpl,show D.all (fun c=>Ey t c s.has k)=false from List.all_eq_false.2 ⟨D[i],List.getElem_mem hi,by rw [c4];simp⟩];rfl)
   | true =>
    simp only [CU,go_sem,↓reduceIte,q52,q51,q0,q28,q3,q30,q29,q50,q5,hi,hgi,hcl,c4,b1,hst,A0]
    obtain ⟨y,ys,hys⟩:∃ y ys,D[i]=y::ys:=by
     cases h:D[i] with
     | nil=>rw [h] at c4;simp [Ey] at c4
     | cons y ys=>exact ⟨y,ys,rfl⟩
    have e1:(List.map eI D[i])=eI y::List.map eI ys:=by rw [hys];rfl
    have e2:eI (k:Int)::(List.map eI (List.take i D).flatten++List.map eI D[i])=((k:Int)::((List.take i D).flatten++D[i])).map eI:=by rw [List.map_cons,List.map_append]
    rw [e2,e1]
    refine ⟨⟨.inr (fun x hx=>by cases hx;exact A7e _ _),trivial⟩,?_,rfl,?_⟩
    ·show VV.sl 0 (i+1) 0 ((List.take i D).flatten.length+1+D[i].length)=_
     congr 1;omega
    ·intro j hj hji
     by_cases e:j=i
     ·subst e;exact c4
     ·exact q4 j hj (by omega)
  ·rintro F h ⟨q0,q28,q3,q30,q29,q50,q5,rfl,q4⟩
   have hda:D.all (fun c=>Ey t c s.has k)=true:=by
    rw [List.all_eq_true]
    intro c hc
    obtain ⟨j,hj,rfl⟩:=List.mem_iff_getElem.1 hc
    exact q4 j hj hj
   rw [List.take_length] at q5
   simp only [CU,go_sem,↓reduceIte,q0,q28,q3,q30,q29,q50,q5,List.take_length]
   rw [← hall]
   refine Ae (by decide) s.has.length (by omega) (I:=fun i F h=>A4.tmp F 0 = .fp (YU t s) 0∧A4.tmp F 28 = .ls (s.mo.map EB)∧A4.tmp F 3 = .i .i64 k∧A4.tmp F 30 = .i .i64 k∧A4.tmp F 29 = .i .i64 s.mo.length∧A4.tmp F 69=lI s.has∧A4.tmp F 5 = .sl 0 D.length 0 (LO m k).length∧h=hAl D.length (LO m k)∧A4.tmp F 8 = .i .i64 (((s.has.take i).filter fun n=>Bm t s.has n k).length:Nat)) ?_ ?_ 0 _ _ (by omega) ?_ ?_ ?_
   ·rintro i F h hi q71 q70 ⟨q0,q28,q3,q30,q29,q69,q5,rfl,q8⟩
    have hw:=fun (n loc:Int) (Q:VV→Prop)=>J2 C t ht s hn n loc (Q:=Q)
    have hgi:s.has[i]? = some s.has[i]:=List.getElem?_eq_getElem hi
    have hst:s.has.take (i+1)=s.has.take i++[s.has[i]]:=List.take_succ_eq_append_getElem hi
    cases c4:Bm t s.has s.has[i] k with
    | false =>
     simp only [CU,go_sem,↓reduceIte,q71,q70,q0,q28,q3,q30,q29,q69,q5,q8,hi,hgi,hw,c4,A0]
     have e:[s.has[i]].filter (fun n=>Bm t s.has n k)=[]:=by rw [List.filter_cons,c4];rfl
     rw [hst,List.filter_append,e,List.append_nil]
    | true =>
     have hle:((s.has.take i).filter fun n=>Bm t s.has n k).length≤1000:=Nat.le_trans (List.length_filter_le _ _) (by rw [List.length_take];omega)
     have w1:=Gp (show ((s.has.take i).filter fun n=>Bm t s.has n k).length < 9223372036854775807 by omega)
     simp only [CU,go_sem,↓reduceIte,q71,q70,q0,q28,q3,q30,q29,q69,q5,q8,hi,hgi,hw,c4,w1,A0]
     have e:[s.has[i]].filter (fun n=>Bm t s.has n k)=[s.has[i]]:=by rw [List.filter_cons,c4];rfl
     rw [hst,List.filter_append,e,List.length_append];rfl
   ·rintro F h ⟨q0,q28,q3,q30,q29,q69,q5,rfl,q8⟩
    rw [List.take_length,show (s.has.filter fun n=>Bm t s.has n k).length=Gq t s k from rfl] at q8
    have hal:(LO m k).length≤1000000000:=by
     have:=A4j D hDc
     rw [hall,List.length_cons];omega
    have hof:=fun (Q:VV→Prop)=>Ll C (LO m k) (by omega) (Q:=Q)
    by_cases c7:(LO m k).length=Gq t s k
    ·have c7':((LO m k).length:Int)=Gq t s k:=by omega
     by_cases c8:(C1 (Cj (LO m k))).length=Gq t s k
     ·have c8':((C1 (Cj (LO m k))).length:Int)=Gq t s k:=by omega
      simp only [CU,go_sem,↓reduceIte,q0,q28,q3,q30,q29,q69,q5,q8,c7',hof,Jz C,c8',hAl,List.take_length]
      exact Gl p3 (by rw [hpl,hda,decide_eq_true c7,decide_eq_true c8];rfl)
     ·have c8':¬ ((C1 (Cj (LO m k))).length:Int)=Gq t s k:=by omega
      simp only [CU,go_sem,↓reduceIte,q0,q28,q3,q30,q29,q69,q5,q8,c7',hof,Jz C,c8',hAl,List.take_length]
      exact bad (by rw [hpl,decide_eq_false c8,Bool.and_false])
    ·have c7':¬ ((LO m k).length:Int)=Gq t s k:=by omega
     simp only [CU,go_sem,↓reduceIte,q0,q28,q3,q30,q29,q69,q5,q8,c7']
     exact bad (by rw [hpl,decide_eq_false c7,Bool.and_false,Bool.false_and])
   ·simp only [CU,go_sem,↓reduceIte,q0,q28,q3,q30,q29,q5]
   ·simp only [CU,go_sem,↓reduceIte,q0,q28,q3,q30,q29,q5]
   ·simp only [CU,go_sem,↓reduceIte,q0,q28,q3,q30,q29,q5]
    rw [hall];rfl
  ·simp only [CU,go_sem,↓reduceIte,p30,p29,p0,p28]
  ·simp only [CU,go_sem,↓reduceIte,p30,p29,p0,p28]
  ·simp only [CU,go_sem,↓reduceIte,p30,p29,p0,p28]
   exact ⟨rfl,rfl,fun j hj h=>by omega⟩
 ·rintro F h ⟨p0,p28,rfl,p3⟩
  simp only [CU,go_sem,↓reduceIte,p0,p28]
  rw [Ek,decide_eq_true c2,BG p3];rfl
 ·simp only [CU,go_sem,↓reduceIte]
 ·simp only [CU,go_sem,↓reduceIte]
  exact c2'.symm
 ·simp only [CU,go_sem,↓reduceIte]
  intro j hj;omega
end
abbrev RU (t:A2) (s:A5):VV:=.ls [[.f ZX [.fp (YU t s) 0] []],[.f ZY [.fp (YU t s) 0] []],[.f ZZ [.fp (YU t s) 0] []]]
section
variable {V:Am} (C:Au V) {Q:VV→Prop}
include C
theorem A0u (s:A5) (hs:Hq s):VP V A5E [J6 s] Q↔Q (vW (Cj s.has)):=by
 refine Ad ?_
 rw [Ac C.c_z95.1 C.c_z95.2]
 have:=hs.has
 simp only [A9y,A4O,go_sem,↓reduceIte,Ll C s.has (by omega)]
theorem A3o (s:A5) (hs:Hq s) (n:Int):VP V A5r [J6 s,.i .i64 n] Q↔Q (.i .i64 (SY s n)):=by
 refine Ad ?_
 rw [Ac C.c_z76.1 C.c_z76.2]
 have hh:=hs.has
 have hix:=fun (Q:VV→Prop)=>E6 C s.has n (by omega) (Q:=Q)
 cases c:B2 s.has n with
 | false =>
  have e:D3 (fun y=>decide (n=y)) s.has = -1:=Aby c
  simp only [Z8,U9,go_sem,↓reduceIte,hix,e]
  rw [SY,if_pos (.inl (by show D3 (fun y=>decide (n=y)) s.has < 0;rw [e];decide))]
 | true =>
  obtain ⟨k,e,hk,_,_⟩:=Hh c
  have e':D3 (fun y=>decide (n=y)) s.has=k:=e
  have q1:decide ((k:Int) < 0)=false:=decide_eq_false (by omega)
  by_cases c2:s.jf.length≤k
  ·simp only [Z8,U9,go_sem,↓reduceIte,hix,e',q1,c2]
   rw [SY,if_pos (.inr (by rw [e];omega))]
  ·have hkj:k < s.jf.length:=by omega
   simp only [Z8,U9,go_sem,↓reduceIte,hix,e',q1,c2,Az hkj]
   rw [SY,if_neg (by rw [e];omega),e,Int.toNat_natCast]
theorem SG (c:List Int) (hc:c.length < 9223372036854775807) (w:Int):VP V RY [lI c,.fp [.i .i64 w] 0] Q↔Q (.b (B2 c w)):=by
 refine Ad ?_
 rw [Ac C.c_z129.1 C.c_z129.2]
 simp only [A1r,VJ,go_sem,↓reduceIte,Ha C c w hc]
 rfl
theorem fzW (w:Int):Fz [.fp [.i .i64 w] 0]:=fun _ _=>rfl
theorem Tx (s:A5) (hs:Hq s) (loc w:Int):VP V A5s [J6 s,.i .i64 loc,.i .i64 w] Q↔Q (.i .i64 (Bd s loc w)):=by
 refine Ad ?_
 rw [Ac C.c_z77.1 C.c_z77.2]
 unfold Bd
 by_cases h0:loc < 0
 ·simp only [Z9,Ua,go_sem,↓reduceIte,h0]
 ·obtain ⟨k,rfl⟩:=Int.eq_ofNat_of_zero_le (by omega:0≤loc)
  by_cases h1:s.mo.length≤k
  ·simp only [Z9,Ua,go_sem,↓reduceIte,h0,h1]
  ·have hk:k < s.mo.length:=by omega
   have hl:=hs.mi' k
   have hix:=fun (Q:VV→Prop)=>G4 C (s.mo.getD k []) (by omega) (g:=RY) Fz.nil (fzW C w) (fun c=>B2 c w) (fun x hx=>by
    have:x.length≤1000:=hs.mc _ (Ap hk) x hx
    exact (SG C x (by omega) w).2 rfl) (Q:=Q)
   simp only [Z9,Ua,go_sem,↓reduceIte,h0,h1,Cv hk,hix]
theorem A0t (t:A2) (ht:A8 t) (s:A5) (hs:Hq s):VP V ZO [vT t,J6 s] Q↔Q (.b (Cc t s.has && M5 t s && Ek t s)):=by
 refine Ad ?_
 rw [Ac C.c_z25.1 C.c_z25.2]
 have s1:=fun (Q:VV→Prop)=>Pl C t ht (Q:=Q)
 have s2:=fun (Q:VV→Prop)=>A3p C t ht s hs (Q:=Q)
 have s3:=fun (Q:VV→Prop)=>TA C t ht s hs (Q:=Q)
 simp only [A90,Hx,go_sem,↓reduceIte,s1,s2]
 refine Ae (by decide) 3 (by omega) (I:=fun k F h=>A4.tmp F 20=RU t s∧h=[]∧(1≤k→Cc t s.has=true)∧(2≤k→M5 t s=true)∧(3≤k→Ek t s=true)) ?_ ?_ 0 _ _ (by omega) ?_ ?_ ?_
 ·rintro k F h hk p22 p21 ⟨p20,rfl,h1,h2,h3⟩
  rcases (show k=0∨k=1∨k=2 by omega) with rfl | rfl | rfl
  ·cases c:Cc t s.has with
   | false=>simp only [Hx,go_sem,↓reduceIte,p22,p21,p20,RU,s3,c,A0]
   | true=>simp only [Hx,go_sem,↓reduceIte,p22,p21,p20,RU,s3,c,A0]
  ·have hn:=KW (h1 (by omega))
   have s4:=fun (Q:VV→Prop)=>NT C t ht s hs hn (Q:=Q)
   cases c:M5 t s with
   | false=>simp only [Hx,go_sem,↓reduceIte,p22,p21,p20,RU,s4,c,A0]
   | true=>simp only [Hx,go_sem,↓reduceIte,p22,p21,p20,RU,s4,c,A0];exact h1 (by omega)
  ·have hn:=KW (h1 (by omega))
   have s4:=fun (Q:VV→Prop)=>SH C t ht s hs hn (Q:=Q)
   cases c:Ek t s with
   | false=>simp only [Hx,go_sem,↓reduceIte,p22,p21,p20,RU,s4,c,A0]
   | true=>simp only [Hx,go_sem,↓reduceIte,p22,p21,p20,RU,s4,c,A0];exact ⟨h1 (by omega),h2 (by omega)⟩
 ·rintro F h ⟨p20,rfl,h1,h2,h3⟩
  simp only [Hx,go_sem,↓reduceIte,p20]
  rw [h1 (by omega),h2 (by omega),h3 (by omega)];rfl
 ·simp only [Hx,go_sem,↓reduceIte]
 ·simp only [Hx,go_sem,↓reduceIte]
 ·simp only [Hx,go_sem,↓reduceIte]
theorem Y5 (t:A2) (ht:A8 t) (s:A5) (hs:Hq s):VP V ZO [vT t,J6 s] Q↔Q (.b (BH t s)):=by
 rw [A0t C t ht s hs,Ah8 t ht s]
end
end Go.AM
