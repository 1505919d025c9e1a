/-
  Own work, part of the proof of these laws: what functions compute.
-/
import Derived.Test.YthhlhddnndlhkaaGreatDoorKDd
set_option maxRecDepth 10000
set_option maxHeartbeats 64000000
set_option linter.unusedVariables false
set_option linter.unusedSimpArgs false
set_option linter.unusedSectionVars false
set_option linter.unnecessarySimpa false
open List (length_map all_eq_true map_append getElem?_map)
namespace Go.AM
open Go Go.Proofs
theorem AhC {args:List VV} (y x:Option VO) (r:VH) (j:Nat) (h0:(A1T args).contains 1=true) (h1:(A1T args).contains (j+1+1)=true):∃ y' r',BL (Ml args (y::x::r)) (y::x::r)=y'::x::r'/\r'[j]? = r[j]?:=by
 obtain ⟨⟨y',r'⟩,h2⟩:=GY y x r h0
 refine ⟨y',r',h2,?_⟩
 have:=Adw (y::x::r) (j+1+1) h1
 rw [h2] at this
 simpa using this
def AnV (v:VV):Prop:=∃ row,v = .ag row/\GC row
section
variable {V:At} (C:Aq V) {Q:VV->Prop}
include C
theorem Pd (l:List U8) (hl:l.length<=1000/\∀ x∈l,x.n < 256) (vals:Int) (hv:1<=vals/\vals<=4) (nl:Nat) (hnl:1<=nl/\nl<=4) (rg:List (List ByteArray)) (hrg:1<=rg.length/\rg.length<=4) (d:Nat) (hd:d<=10)
  (ih:0 < d->∀ (a:Nat) (ha:a<=l.length) (j:Nat) (r:VH) (hR:r[j]? = some (some (AW C7 1 (rg.map JE)))) {x0:Option VO},
   Hs V H5 [.p 1 0 0 0,vHp vals nl,.sl (j+1+1) rg.length 0 rg.length,.i .i64 ((d - 1:Nat):Int)] (x0::MO l a::r) fun v h=>AnV v/\MS x0 l r h)
  (a:Nat) (ha:a<=l.length) (j:Nat) (r:VH) (hR0:r[j]? = some (some (AW C7 1 (rg.map JE)))) {x0:Option VO} :
  Hs V H5 [.p 1 0 0 0,vHp vals nl,.sl (j+1+1) rg.length 0 rg.length,.i .i64 d] (x0::MO l a::r) fun v h=>AnV v/\MS x0 l r h:=by
 have h6:j < r.length:=(List.getElem?_eq_some_iff.1 hR0).1
 have hR:∀ x,(r++x)[j]? = some (some (AW C7 1 (rg.map JE))):=fun x=>by rw [List.getElem?_append_left h6];exact hR0
 have h4:(List.length r+1 == j)=false:=by rw [beq_eq_false_iff_ne];omega
 have h2:=G8 (ty:=C7) (e:=1) (rows:=rg.map JE) (by rw [length_map];omega)
 rw [Cm C.h_z228]
 simp only [L6,go_sem,↓reduceIte]
 refine (B5 C l hl a ha _ _).mono ?_
 rintro _ _ ⟨k,rfl,hk,a,ha,rfl⟩
 by_cases c0:(0:Int) < d
 .by_cases c3:(3:Int) < k
  .have wd:IntKind.i64.wrap (((d:Nat):Int) - 1)=((d - 1:Nat):Int):=by rw [Az (by omega) (by omega)];omega
   by_cases c4:(k:Int)=4
   .simp only [go_sem,↓reduceIte,c0,c3,c4,wd]
    refine (ih (by omega) a ha j _ (hR _)).mono ?_
    rintro _ _ ⟨⟨row,rfl,g1⟩,a,ha,rfl⟩
    have h3:=g1
    cases g1 with
    | mk o1 t1 m1 n1 ks1 q1 z1 =>
    try simp only [go_sem,↓reduceIte,wd,h4]
    exact ⟨⟨_,rfl,.mk _ _ _ _ _ (by simp) (by intro x hx;rw [List.mem_singleton.1 hx];exact h3)⟩,a,ha,rfl⟩
   .simp only [go_sem,↓reduceIte,c0,c3,c4,wd]
    refine (B5 C l hl a ha _ _).mono ?_
    rintro _ _ ⟨k2,rfl,h9,a,ha,rfl⟩
    try simp only [go_sem,↓reduceIte,c0,c3,c4,wd]
    refine (ih (by omega) a ha j _ (hR _)).mono ?_
    rintro _ _ ⟨⟨row,rfl,g1⟩,a,ha,rfl⟩
    have h3:=g1
    cases g1 with
    | mk o1 t1 m1 n1 ks1 q1 z1 =>
    try simp only [go_sem,↓reduceIte,wd,h4]
    refine ⟨?_,?_⟩
    .obtain ⟨y0,r',h7,h8⟩:=AhC (args:=[.p 1 0 0 0,vHp vals nl,.sl (j+1+1) rg.length 0 rg.length,.i .i64 ((d - 1:Nat):Int)]) x0 (MO l a) (r++[some { ty:=YX,esz:=0,ver:=0,nl:=false,rows:=[[.i .i64 0,.i .i64 0,.s (bs []),.i .i64 0,.nl]] },some { ty:=YX,esz:=0,ver:=0,nl:=false,rows:=[[.i .i64 o1,.i .i64 t1,.s m1,.i .i64 n1,.ls ks1]] }]) j rfl (by simp [A1T])
     rw [h7]
     exact (ih (by omega) a ha j _ (h8.trans (hR _))).to2
    refine (ih (by omega) a ha j _ (hR _)).mono ?_
    rintro _ _ ⟨⟨row,rfl,g2⟩,a,ha,rfl⟩
    have h5:=g2
    cases g2 with
    | mk o2 t2 m2 n2 ks2 q2 z2 =>
    try simp only [go_sem,↓reduceIte,wd,h4]
    exact ⟨⟨_,rfl,.mk _ _ _ _ _ (by simp) (by intro x hx;rcases List.mem_cons.1 hx with rfl | hx;exact h3;rw [List.mem_singleton.1 hx];exact h5)⟩,a,ha,rfl⟩
  .simp only [go_sem,↓reduceIte,c0,c3]
   refine (B5 C l hl a ha _ _).mono ?_
   rintro _ _ ⟨t,rfl,ht,a,ha,rfl⟩
   have ht:t < rg.length:=by have:=ht (by omega);omega
   have h0:=Md ht
   have h1:(t:Int) < rg.length:=by omega
   by_cases k0:(0:Int) < k
   .by_cases z:(0:Int) < (rg.getD t []).length
    .try simp only [go_sem,↓reduceIte,k0,hR,h0,G9,h2,h1,z,length_map,getElem?_map]
     refine ⟨by rw [(GY x0 (MO l a) _ rfl).choose_spec];exact (B5 C l hl a ha _ _).to2,?_⟩
     refine (B5 C l hl a ha _ _).mono ?_
     rintro _ _ ⟨q,rfl,hq,a,ha,rfl⟩
     have hq:q < (rg.getD t []).length:=by have:=hq (by omega);omega
     try simp only [go_sem,↓reduceIte,k0,hR,h0,G9,h2,h1,z,length_map,getElem?_map,Yj hq]
     refine ⟨by rw [(GY x0 (MO l a) _ rfl).choose_spec];exact (B5 C l hl a ha _ _).to2,?_⟩
     refine (B5 C l hl a ha _ _).mono ?_
     rintro _ _ ⟨n,rfl,hn,a,ha,rfl⟩
     try simp only [go_sem,↓reduceIte,k0,hR,h0,G9,h2,h1,z,length_map,getElem?_map,Yj hq]
     exact ⟨⟨_,rfl,.mk _ _ _ _ _ (by simp) (by simp)⟩,a,ha,rfl⟩
    .try simp only [go_sem,↓reduceIte,k0,hR,h0,G9,h2,h1,z,length_map,getElem?_map]
     refine (B5 C l hl a ha _ _).mono ?_
     rintro _ _ ⟨i,rfl,hi,a,ha,rfl⟩
     have hi:i < 4:=by have:=hi (by omega);omega
     try simp only [go_sem,↓reduceIte,Kg C i hi]
     refine (B5 C l hl a ha _ _).mono ?_
     rintro _ _ ⟨n,rfl,hn,a,ha,rfl⟩
     try simp only [go_sem,↓reduceIte,Kg C i hi]
     exact ⟨⟨_,rfl,.mk _ _ _ _ _ (by simp) (by simp)⟩,a,ha,rfl⟩
   .try simp only [go_sem,↓reduceIte,k0]
    refine (B5 C l hl a ha _ _).mono ?_
    rintro _ _ ⟨i,rfl,hi,a,ha,rfl⟩
    have hi:i < 4:=by have:=hi (by omega);omega
    try simp only [go_sem,↓reduceIte,Kg C i hi]
    refine (B5 C l hl a ha _ _).mono ?_
    rintro _ _ ⟨n,rfl,hn,a,ha,rfl⟩
    try simp only [go_sem,↓reduceIte,Kg C i hi]
    exact ⟨⟨_,rfl,.mk _ _ _ _ _ (by simp) (by simp)⟩,a,ha,rfl⟩
 .simp only [go_sem,↓reduceIte,c0]
  refine (B5 C l hl a ha _ _).mono ?_
  rintro _ _ ⟨t,rfl,ht,a,ha,rfl⟩
  have ht:t < rg.length:=by have:=ht (by omega);omega
  have h0:=Md ht
  have h1:(t:Int) < rg.length:=by omega
  by_cases k0:(0:Int) < k
  .by_cases z:(0:Int) < (rg.getD t []).length
   .try simp only [go_sem,↓reduceIte,k0,hR,h0,G9,h2,h1,z,length_map,getElem?_map]
    refine ⟨by rw [(GY x0 (MO l a) _ rfl).choose_spec];exact (B5 C l hl a ha _ _).to2,?_⟩
    refine (B5 C l hl a ha _ _).mono ?_
    rintro _ _ ⟨q,rfl,hq,a,ha,rfl⟩
    have hq:q < (rg.getD t []).length:=by have:=hq (by omega);omega
    try simp only [go_sem,↓reduceIte,k0,hR,h0,G9,h2,h1,z,length_map,getElem?_map,Yj hq]
    refine ⟨by rw [(GY x0 (MO l a) _ rfl).choose_spec];exact (B5 C l hl a ha _ _).to2,?_⟩
    refine (B5 C l hl a ha _ _).mono ?_
    rintro _ _ ⟨n,rfl,hn,a,ha,rfl⟩
    try simp only [go_sem,↓reduceIte,k0,hR,h0,G9,h2,h1,z,length_map,getElem?_map,Yj hq]
    exact ⟨⟨_,rfl,.mk _ _ _ _ _ (by simp) (by simp)⟩,a,ha,rfl⟩
   .try simp only [go_sem,↓reduceIte,k0,hR,h0,G9,h2,h1,z,length_map,getElem?_map]
    refine (B5 C l hl a ha _ _).mono ?_
    rintro _ _ ⟨i,rfl,hi,a,ha,rfl⟩
    have hi:i < 4:=by have:=hi (by omega);omega
    try simp only [go_sem,↓reduceIte,Kg C i hi]
    refine (B5 C l hl a ha _ _).mono ?_
    rintro _ _ ⟨n,rfl,hn,a,ha,rfl⟩
    try simp only [go_sem,↓reduceIte,Kg C i hi]
    exact ⟨⟨_,rfl,.mk _ _ _ _ _ (by simp) (by simp)⟩,a,ha,rfl⟩
  .try simp only [go_sem,↓reduceIte,k0]
   refine (B5 C l hl a ha _ _).mono ?_
   rintro _ _ ⟨i,rfl,hi,a,ha,rfl⟩
   have hi:i < 4:=by have:=hi (by omega);omega
   try simp only [go_sem,↓reduceIte,Kg C i hi]
   refine (B5 C l hl a ha _ _).mono ?_
   rintro _ _ ⟨n,rfl,hn,a,ha,rfl⟩
   try simp only [go_sem,↓reduceIte,Kg C i hi]
   exact ⟨⟨_,rfl,.mk _ _ _ _ _ (by simp) (by simp)⟩,a,ha,rfl⟩
theorem Alo (l:List U8) (hl:l.length<=1000/\∀ x∈l,x.n < 256) (vals:Int) (hv:1<=vals/\vals<=4) (nl:Nat) (hnl:1<=nl/\nl<=4) (rg:List (List ByteArray)) (hrg:1<=rg.length/\rg.length<=4) (d:Nat):d<=10->∀ (a:Nat) (ha:a<=l.length) (j:Nat) (r:VH) (hR:r[j]? = some (some (AW C7 1 (rg.map JE)))) {x0:Option VO},
      Hs V H5 [.p 1 0 0 0,vHp vals nl,.sl (j+1+1) rg.length 0 rg.length,.i .i64 d] (x0::MO l a::r) fun v h=>AnV v/\MS x0 l r h:=by
  induction d with
  | zero=>exact fun _=>Pd C l hl vals hv nl hnl rg hrg 0 (by omega) (fun h=>absurd h (by omega))
  | succ d ih=>exact fun _=>Pd C l hl vals hv nl hnl rg hrg (d+1) (by omega) (fun _=>ih (by omega))
end
abbrev oPz:Option VO:=some ⟨YY,0,0,false,[[.s (bs []),.i .i64 0,.nl,.nl,.i .i64 0,.i .i64 0,.i .i64 0,.s (bs []),.i .i64 0,.nl]]⟩
abbrev oPr (n:Nat) (vals ask:Int) (vi vt:Nat):Option VO:=some ⟨YY,0,0,false,[[.s (bs [109,97,100,101]),.i .i64 vals,.sl (n+2+1+1) vi 0 vi,.sl (n+2+1+1+1) vt 0 vt,.i .i64 ask,.i .i64 0,.i .i64 0,.s (bs []),.i .i64 0,.sl (n+2+1+1+1+1) 0 0 0]]⟩
def LI (x0:Option VO) (l:List U8) (vals ask:Int) (r:VH) (k:Nat) (h:VH):Prop:=∃ (a:Nat) (ini:List (ByteArray×Int)),a<=l.length/\ini.length=k/\ini.map (·.1)=K6 k/\(∀ x∈ini,0<=x.2/\x.2 < vals) /\
 h=x0::MO l a::(r++[oPz,oPr r.length vals ask k 0,some (AW YW 2 (ini.map eCl)),some DW,some DW])
def TI (x0:Option VO) (l:List U8) (L:List ByteArray) (vals ask:Int) (nl:Nat) (ini:List (ByteArray×Int)) (r:VH) (k:Nat) (h:VH):Prop:=∃ (a:Nat) (thr:List (List (List VV))) (rg:List (List ByteArray)),a<=l.length/\thr.length=k/\rg.length=k/\(∀ l∈thr,l.length<=10/\∀ s∈l,GS L s)/\(∀ l∈rg,l.length<=4) /\
 h=x0::MO l a::(r++[oPz,oPr r.length vals ask nl k,some (AW YW 2 (ini.map eCl)),some (AW A6r 1 (thr.map fun l=>[.ls l])),some DW,some (AW C7 1 (rg.map JE))])
theorem Aed {nl:Nat} (x:ByteArray) (h:x∈K6 nl):x.size<=1000:=by
 obtain ⟨k,_,rfl⟩:=List.mem_map.1 h
 rcases k with _ | _ | _ | k<;>(show (1:Nat)<=1000;decide)
theorem Ajb (nl:Nat) (h:nl<=4):(K6 nl).Nodup:=by
 rcases (show nl=0\/nl=1\/nl=2\/nl=3\/nl=4 by omega) with rfl | rfl | rfl | rfl | rfl<;>decide
theorem Aee (k:Nat):K6 (k+1)=K6 k++[A6n k]:=by unfold K6;rw [List.range_succ,map_append];rfl
section
variable {V:At} (C:Aq V) {Q:VV->Prop}
include C
theorem A7d (l:List U8) (hl:l.length<=1000/\∀ x∈l,x.n < 256) (vals:Int) (hv:2<=vals/\vals<=4) (nl:Nat) (hnl:1<=nl/\nl<=4) (th most deep:Nat) (ht:1<=th/\th<=4) (hm:most<=9) (hd:deep<=9) (a:Nat) (ha:a<=l.length) (r:VH) {x0:Option VO} :
  Hs V Jp [.p 1 0 0 0,vHp vals nl,.i .i64 th,.i .i64 most,.i .i64 deep] (x0::MO l a::r) fun v h=>(∃ p:PP,v=p.v/\GP2 p)/\MS x0 l r h:=by
 rw [Cm C.h_z177]
 simp only [L4,go_sem,↓reduceIte]
 refine (B5 C l hl a ha _ _).mono ?_
 rintro _ _ ⟨k,rfl,hk,a,ha,rfl⟩
 simp only [go_sem,↓reduceIte,AZ,rgd,D5]
 generalize IntKind.i64.wrap (1 + ↑k)=ask
 refine Ab (by decide) nl (by omega) (I:=fun k F h=>LI x0 l vals ask r k h/\A4.tmp F 0 = .p 1 0 0 0/\A4.tmp F 2 = .i .i64 th/\A4.tmp F 3 = .i .i64 most/\A4.tmp F 4 = .i .i64 deep/\A4.tmp F 6=fHp vals nl/\A4.tmp F 10 = .p (r.length+1+1) 0 0 0/\A4.tmp F 11 = .p (r.length+1+1+1) 0 0 0) ?_ ?_ ?_ 0 _ _ (Nat.zero_le _) ?_ ?_
 .rintro k F h hk h9 ⟨h1,p0,p2,p3,p4,p6,h0,h2⟩
  simp only [go_sem,↓reduceIte,h9,p0,p2,p3,p4,p6,h0,h2]
  exact h1
 .rintro k F h hk h9 ⟨⟨a,h3,ha,hc,h6,he,rfl⟩,p0,p2,p3,p4,p6,h0,h2⟩
  have b1:(h3.length+1) * 24<=Aa:=by unfold Aa;omega
  subst hc
  simp only [Adr,go_sem,↓reduceIte,h9,p0,p2,p3,p4,p6,h0,h2,Kg C h3.length (by omega),rgd,D5,A0]
  refine (B5 C l hl a ha _ _).mono ?_
  rintro _ _ ⟨k1,rfl,h7,a,ha,rfl⟩
  try simp only [go_sem,↓reduceIte,h9,p0,p2,p3,p4,p6,h0,h2,rgd,D5]
  refine (B5 C l hl a ha _ _).mono ?_
  rintro _ _ ⟨k2,rfl,ho,a,ha,rfl⟩
  have h7:=h7 (by omega)
  have w1:IntKind.i64.wrap (1+(k2:Int))=1+(k2:Int):=Az (by omega) (by have:=ho (by omega);omega)
  have hr:((k1:Int)).tmod (1+(k2:Int))=((k1 % (1+k2):Nat):Int):=by rw [Int.tmod_eq_emod_of_nonneg (by omega),Int.natCast_emod,Int.natCast_add];rfl
  have hu:=Nat.mod_le k1 (1+k2)
  try simp only [go_sem,↓reduceIte,h9,p0,p2,p3,p4,p6,h0,h2,rgd,D5,w1,Hp (show 1+(k2:Int)≠0 by omega),hr,b1]
  refine ⟨.inr ?_,⟨a,h3++[(A6n h3.length,((k1 % (1+k2):Nat):Int))],ha,by simp,by rw [map_append,h6,Aee];rfl,?_,?_⟩,?_⟩
  .rw [all_eq_true]
   intro x hx
   rcases List.mem_append.1 hx with hx | hx
   .obtain ⟨y,_,rfl⟩:=List.mem_map.1 hx;rfl
   .rw [List.mem_singleton.1 hx];rfl
  .intro x hx
   rcases List.mem_append.1 hx with hx | hx
   .exact he x hx
   .rw [List.mem_singleton.1 hx];exact ⟨by show (0:Int)<=_;omega,by show _ < vals;omega⟩
  .rw [<- KO,map_append];rfl
  .rw [show decide (List.length r+1+1 < List.length r+5+1+1)=true by rw [decide_eq_true_iff];omega];rfl
 .rintro F h ⟨⟨a,h3,ha,hc,h6,he,rfl⟩,p0,p2,p3,p4,p6,h0,h2⟩
  simp only [go_sem,↓reduceIte,p0,p2,p3,p4,p6,h0,h2]
  refine Ab (by decide) th (by omega) (I:=fun k F h=>TI x0 l (K6 nl) vals ask nl h3 r k h/\A4.tmp F 0 = .p 1 0 0 0/\A4.tmp F 2 = .i .i64 th/\A4.tmp F 3 = .i .i64 most/\A4.tmp F 4 = .i .i64 deep/\A4.tmp F 6=fHp vals nl/\A4.tmp F 10 = .p (r.length+1+1) 0 0 0/\A4.tmp F 11 = .p (r.length+1+1+1) 0 0 0/\A4.tmp F 13 = .sl (r.length+5+1+1) k 0 k) ?_ ?_ ?_ 0 _ _ (Nat.zero_le _) ?_ ?_
  .rintro k F h hk hb ⟨h1,p0,p2,p3,p4,p6,h0,h2,h5⟩
   simp only [go_sem,↓reduceIte,hb,p0,p2,p3,p4,p6,h0,h2,h5]
   exact h1
  .rintro k F h hk hb ⟨⟨a,h4,rg,ha,hg,h8,hf,hi,rfl⟩,p0,p2,p3,p4,p6,h0,h2,h5⟩
   have b1:(h4.length+1) * 24<=Aa:=by unfold Aa;omega
   have b2:(rg.length+1) * 24<=Aa:=by unfold Aa;omega
   have w1:=HL (show most < 9223372036854775807 by omega)
   subst hg
   simp only [Adv,go_sem,↓reduceIte,hb,p0,p2,p3,p4,p6,h0,h2,h5,w1,rgd,D5,A0]
   refine (B5 C l hl a ha _ _).mono ?_
   rintro _ _ ⟨k1,rfl,h7,a,ha,rfl⟩
   have h7:k1 < most+1:=by have:=h7 (by omega);omega
   try simp only [go_sem,↓reduceIte,hb,p0,p2,p3,p4,p6,h0,h2,h5,rgd,D5]
   refine (AhJ C l hl vals (by omega) nl hnl deep (by omega) k1 (by omega) a ha _ KR.nil _).mono ?_
   rintro _ _ ⟨⟨rows,g,rfl,hw,hn,nm,hp,hq,rfl⟩,a,ha,rfl⟩
   try simp only [go_sem,↓reduceIte,hb,p0,p2,p3,p4,p6,h0,h2,h5,rgd,D5,b1,b2,h8]
   have d1:decide (List.length r+1+1 < List.length r+6+1+1)=true:=by rw [decide_eq_true_iff];omega
   have d2:decide (List.length r+1+1+1 < List.length r+6+1+1)=true:=by rw [decide_eq_true_iff];omega
   have d3:decide (List.length r+5+1+1 < List.length r+6+1+1)=true:=by rw [decide_eq_true_iff];omega
   refine ⟨.inr ?_,.inr ?_,⟨a,h4++[rows],rg++[nm],ha,by simp,by simp [h8],?_,?_,?_⟩,?_⟩
   .rw [all_eq_true]
    intro x hx
    rcases List.mem_append.1 hx with hx | hx
    .obtain ⟨y,_,rfl⟩:=List.mem_map.1 hx;rfl
    .rw [List.mem_singleton.1 hx];rfl
   .rw [all_eq_true]
    intro x hx
    rcases List.mem_append.1 hx with hx | hx
    .obtain ⟨y,_,rfl⟩:=List.mem_map.1 hx;rfl
    .rw [List.mem_singleton.1 hx];rfl
   .intro x hx
    rcases List.mem_append.1 hx with hx | hx
    .exact hf x hx
    .rw [List.mem_singleton.1 hx];exact ⟨by omega,hn⟩
   .intro x hx
    rcases List.mem_append.1 hx with hx | hx
    .exact hi x hx
    .rw [List.mem_singleton.1 hx];exact X7 hp hq
   .rw [<- KO,<- KO,map_append,map_append,h8];rfl
   .simp only [d1,d2,d3,go_sem,QO,bel]
  .rintro F h ⟨⟨a,h4,rg,ha,hg,h8,hf,hi,rfl⟩,p0,p2,p3,p4,p6,h0,h2,h5⟩
   subst h8
   try simp only [go_sem,↓reduceIte,p0,p2,p3,p4,p6,h0,h2,h5]
   refine (Alo C l hl vals (by omega) nl hnl rg (by omega) 2 (by omega) a ha (r.length+5) _ (by rw [AvI];rfl)).mono ?_
   rintro _ _ ⟨⟨row,rfl,g1⟩,a,ha,rfl⟩
   have hj:=g1
   cases g1 with
   | mk o1 t1 m1 n1 ks1 q1 z1 =>
   have f1:∀ (hh:VH) (d:Nat),Bh (fun row=>Bh (frz hh (d+1)) row) (h3.map eCl)=some (h3.map eCl,[]):=fun hh d=>Ny fun x hx=>by obtain ⟨y,_,rfl⟩:=List.mem_map.1 hx;rfl
   have f2:∀ (hh:VH) (d:Nat),Bh (fun row=>Bh (frz hh (d+1)) row) (h4.map fun l=>[VV.ls l])=some (h4.map fun l=>[VV.ls l],[]):=fun hh d=>Ny fun x hx=>by obtain ⟨y,_,rfl⟩:=List.mem_map.1 hx;rfl
   try simp only [go_sem,↓reduceIte,p0,p2,p3,p4,p6,h0,h2,h5,f1,f2,hc,hg]
   refine ⟨⟨⟨bs [109,97,100,101],vals,h3,h4,ask,o1,t1,m1,n1,ks1⟩,by rw [List.take_of_length_le (by omega),List.take_of_length_le (by omega)],?_⟩,a,ha,rfl⟩
   refine ⟨⟨by show (4:Nat)<=1000;decide,by show h3.length<=1000;omega,fun x hx=>?_,by show h4.length<=1000;omega,fun x hx=>?_,hj⟩,hv.1,hv.2,by show h3.length<=4;omega,by show (h3.map (·.1)).Nodup;rw [h6];exact Ajb _ hnl.2,he,by show 1<=h4.length;omega,by show h4.length<=4;omega⟩
   .have:x.1∈K6 nl:=h6 ▸ List.mem_map.2 ⟨x,hx,rfl⟩
    exact Aed _ this
   .have:=hf x hx
    exact ⟨by omega,by show ∀ s∈x,GS (h3.map (·.1)) s;rw [h6];exact this.2⟩
  .simp only [go_sem,↓reduceIte,p0,p2,p3,p4,p6,h0,h2]
  .simp only [go_sem,↓reduceIte,p0,p2,p3,p4,p6,h0,h2]
   exact ⟨a,[],[],ha,rfl,rfl,by simp,by simp,rfl⟩
 .simp only [go_sem,↓reduceIte]
 .simp only [go_sem,↓reduceIte]
  exact ⟨a,[],ha,rfl,rfl,by simp,rfl⟩
def isP (v:VV):Prop:=∃ p:PP,v=p.v/\GP2 p
theorem AhI (l:List U8) (hl:l.length<=1000/\∀ x∈l,x.n < 256) (vals:Int) (hv:2<=vals/\vals<=4) (nl:Nat) (hnl:1<=nl/\nl<=4) (a:Nat) (ha:a<=l.length) (r:VH) {x0:Option VO} :
  Hs V UU [.p 1 0 0 0,vHp vals nl] (x0::MO l a::r) fun v h=>isP v/\MS x0 l r h:=by
 rw [Cm C.h_z118]
 simp only [Zt,go_sem,↓reduceIte]
 refine (B5 C l hl a ha _ _).mono ?_
 rintro _ _ ⟨k,rfl,hk,a,ha,rfl⟩
 by_cases k0:(k:Int)=0
 .simp only [go_sem,↓reduceIte,k0,A0]
  refine (A7d C l hl vals hv nl hnl 1 3 1 (by omega) (by omega) (by omega) a ha _).mono ?_
  rintro _ _ ⟨⟨p,rfl,hp⟩,a,ha,rfl⟩
  try simp only [go_sem,↓reduceIte,k0,A0]
  exact ⟨⟨p,rfl,hp⟩,a,ha,rfl⟩
 by_cases k1:(k:Int)=1
 .simp only [go_sem,↓reduceIte,k0,k1,A0]
  refine (A7d C l hl vals hv nl hnl 3 1 0 (by omega) (by omega) (by omega) a ha _).mono ?_
  rintro _ _ ⟨⟨p,rfl,hp⟩,a,ha,rfl⟩
  try simp only [go_sem,↓reduceIte,k0,A0]
  exact ⟨⟨p,rfl,hp⟩,a,ha,rfl⟩
 .simp only [go_sem,↓reduceIte,k0,k1,A0]
  refine (A7d C l hl vals hv nl hnl 2 2 1 (by omega) (by omega) (by omega) a ha _).mono ?_
  rintro _ _ ⟨⟨p,rfl,hp⟩,a,ha,rfl⟩
  try simp only [go_sem,↓reduceIte,k0,A0]
  exact ⟨⟨p,rfl,hp⟩,a,ha,rfl⟩
theorem AhH (l:List U8) (hl:l.length<=1000/\∀ x∈l,x.n < 256) (a:Nat) (ha:a<=l.length) (r:VH) {x0:Option VO} :
  Hs V A5v [.p 1 0 0 0] (x0::MO l a::r) fun v h=>isP v/\MS x0 l r h:=by
 rw [Cm C.h_z53]
 simp only [A9e,go_sem,↓reduceIte]
 refine (B5 C l hl a ha _ _).mono ?_
 rintro _ _ ⟨k,rfl,hk,a,ha,rfl⟩
 have w1:IntKind.i64.wrap (1+(k:Int))=((1+k:Nat):Int):=by rw [Az (by omega) (by have:=hk (by omega);omega)];omega
 simp only [go_sem,↓reduceIte,w1]
 refine (AhI C l hl 2 (by omega) (1+k) (by have:=hk (by omega);omega) a ha _).mono ?_
 rintro _ _ ⟨⟨p,rfl,hp⟩,a,ha,rfl⟩
 try simp only [go_sem,↓reduceIte]
 exact ⟨⟨p,rfl,hp⟩,a,ha,rfl⟩
theorem Alm (l:List U8) (x0:Option VO) {Q:VV->VH->Prop} (hq:Q (.p 1 0 0 0) [x0,MO l 0]):NR V LM [lU l] [x0] Q:=by
 rw [GN C.h_z52]
 simp only [P6,go_sem,↓reduceIte]
 exact hq
theorem Aln (v:VV) (h:isP v):VP V A5u [v] fun x=>∃ (t:A1) (e:Bool),x = .tu [vT t,.b e]/\(e=true->A5 t):=by
 obtain ⟨p,rfl,hp⟩:=h
 rw [Ad C.c_z50.1 C.c_z50.2]
 obtain ⟨_,⟨t,e,rfl,ht⟩,qb⟩:=Cr (A2K C p hp)
 simp only [A9d,go_sem,↓reduceIte,qb]
 exact ⟨t,_,rfl,fun h=>ht (by simpa using h)⟩
theorem BY (l:List U8) (hl:l.length<=1000/\∀ x∈l,x.n < 256):VP V A56 [lU l] fun x=>∃ (t:A1) (e:Bool),x = .tu [vT t,.b e]/\(e=true->A5 t/\t.nodes.length<=30):=by
 rw [Ad C.c_z13.1 C.c_z13.2]
 simp only [A8S,go_sem,↓reduceIte]
 refine Alm C l _ ?_
 refine (AhH C l hl 0 (by omega) []).mono ?_
 rintro _ _ ⟨⟨p,rfl,hp⟩,a,ha,rfl⟩
 obtain ⟨_,⟨t,e,rfl,ht⟩,qt⟩:=Cr (Aln C p.v ⟨p,rfl,hp⟩)
 cases e with
 | false =>
  simp only [go_sem,↓reduceIte,qt]
  exact ⟨t,false,rfl,fun h=>absurd h (by simp)⟩
 | true =>
  simp only [go_sem,↓reduceIte,qt]
  refine ⟨t,_,rfl,fun h=>⟨ht rfl,?_⟩⟩
  have:=of_decide_eq_true h
  omega
end
end Go.AM
