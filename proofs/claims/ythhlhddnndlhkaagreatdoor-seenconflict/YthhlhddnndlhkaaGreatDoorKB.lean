/-
  Own work, part of the proof of the laws SeenLasts, SeenCalm, SeenConflict: what functions compute (second part).
-/
import Derived.Test.YthhlhddnndlhkaaGreatDoorKA
import Derived.Test.YthhlhddnndlhkaaGreatDoorPl
set_option maxRecDepth 4000
set_option linter.unusedVariables false
set_option linter.unusedSimpArgs false
set_option linter.unusedSectionVars false
set_option linter.unnecessarySimpa false
namespace Go.AM
open Go Go.Proofs
theorem BW {V:Am} {m:Nat→Nat} {a b:A1} {F:A4} {h:VH} {Q:Ex→A4→VH→Prop} (J:A4→VH→Prop) (h1:Vc V m a F h (fun e F' h'=>match e with | .norm=>J F' h' | e=>Q e F' h')) (h2:∀ F' h',J F' h'→Vc V m b F' h' Q):Vc V m (.seq a b) F h Q:=by
 rw [Mq]
 exact h1.mono fun e F' h' hq=>by
  cases e with
  | norm=>exact h2 _ _ hq
  | exit _=>exact hq
  | ret=>exact hq
theorem Db {V:Am} {g:Nat} {pa:List VV} {Q:VV→Prop} (k:VP V g pa Q):∃ x,Q x∧∀ Q':VV→Prop,VP V g pa Q'↔Q' x:=by
 have key:∃ x,Q x∧VP V g pa fun r=>r=x:=by
  unfold VP at k ⊢
  split at k
  ·rename_i y hy
   obtain ⟨v,h1,h2,h3⟩:=k
   exact ⟨v,h3,v,h1,h2,rfl⟩
  ·rename_i hy
   obtain ⟨vf,h1,n,v,h',h2,r,ids,h3,h4⟩:=k
   exact ⟨r,h4,vf,h1,n,v,h',h2,r,ids,h3,rfl⟩
 obtain ⟨x,h1,h2⟩:=key
 exact ⟨x,h1,fun Q'=>Ad h2⟩
theorem R0 {V:Am} {g:Nat} {pa:List VV} {h:VH} {Q:VV→VH→Prop} (k:Hj V g pa h Q):∃ x y,Q x y∧∀ Q':VV→VH→Prop,Hj V g pa h Q'↔Q' x y:=by
 obtain ⟨vf,h1,n,v,h',h2,r,ids,h3,h4,h5⟩:=k
 exact ⟨_,_,h5,fun Q'=>G8 ⟨vf,h1,n,v,h',h2,r,ids,h3,h4,rfl,rfl⟩⟩
theorem DT {V:Am} {g:Nat} {pa:List VV} {h:VH} {Q:VV→VH→Prop} (k:LS V g pa h Q):∃ x y,Q x y∧∀ Q':VV→VH→Prop,LS V g pa h Q'↔Q' x y:=by
 obtain ⟨vf,h1,n,v,h',h2,h3⟩:=k
 exact ⟨_,_,h3,fun Q'=>Mp ⟨vf,h1,n,v,h',h2,rfl,rfl⟩⟩
inductive GC:List VV→Prop
 | mk (op th:Int) (nm:ByteArray) (n:Int) (kids:List (List VV)):kids.length≤1000→(∀ k∈kids,GC k)→GC [.i .i64 op,.i .i64 th,.s nm,.i .i64 n,.ls kids]
theorem GC.len {r:List VV} (h:GC r):r.length=5:=by cases h;rfl
theorem GC.frz {r:List VV} (h:GC r) {hh:VH} {d:Nat}:B4 (frz hh (d+1)) r=some (r,[]):=by cases h;rfl
theorem GC.take {r:List VV} (h:GC r):r.take 5=r:=by cases h;rfl
theorem GC.cell {r:List VV} (h:GC r):r.all VV.cell=true:=by cases h;rfl
theorem ixS {s:ByteArray} {k:Nat} (h:k < s.size):∃ b:UInt8,s.data.toList[k]? = some b:=by
 have:k < s.data.toList.length:=by simpa using h
 exact ⟨_,List.getElem?_eq_getElem this⟩
section
variable {V:Am} (C:Au V) {Q:VV→Prop}
include C
theorem Mi (n:Int):VP V Xu [.i .u8 n] fun x=>∃ b:Bool,x = .b b:=by
 rw [Ac C.c_z194.1 C.c_z194.2]
 simp only [A26,MD,go_sem,↓reduceIte]
 repeat' first
 | (refine Bx (fun hx=>?_) (fun hx=>?_)<;>simp only [MD,go_sem,↓reduceIte,hx])
 | (refine Bk (fun hx=>?_) (fun hx=>?_)<;>simp only [MD,go_sem,↓reduceIte,hx])
 | (refine B8 (fun hx=>?_) (fun hx=>?_)<;>simp only [MD,go_sem,↓reduceIte,hx])
 all_goals try exact ⟨_,rfl⟩
theorem XZ (n:Int):VP V Xw [.i .u8 n] fun x=>∃ b:Bool,x = .b b:=by
 rw [Ac C.c_z196.1 C.c_z196.2]
 simp only [A28,ME,go_sem,↓reduceIte]
 repeat' first
 | (refine Bx (fun hx=>?_) (fun hx=>?_)<;>simp only [ME,go_sem,↓reduceIte,hx])
 | (refine Bk (fun hx=>?_) (fun hx=>?_)<;>simp only [ME,go_sem,↓reduceIte,hx])
 | (refine B8 (fun hx=>?_) (fun hx=>?_)<;>simp only [ME,go_sem,↓reduceIte,hx])
 all_goals try exact ⟨_,rfl⟩
theorem Y0:VP V XD [] fun x=>∃ l:List ByteArray,x=lS l∧l.length≤1000:=by
 rw [Ac C.c_z206.1 C.c_z206.2]
 simp only [A2g,Wh,go_sem,↓reduceIte]
 exact ⟨[_,_,_,_,_,_,_,_,_,_,_,_,_,_,_,_,_,_,_,_,_],rfl,by simp⟩
theorem Sr (s:ByteArray):VP V Xv [.s s] fun x=>∃ b:Bool,x = .b b:=by
 rw [Ac C.c_z195.1 C.c_z195.2]
 simp only [A27,KP,go_sem,↓reduceIte]
 refine (Y0 C).mono ?_
 rintro _ ⟨l,rfl,hl⟩
 refine Ai (by decide) l.length (by omega) (I:=fun k F h=>h=[]∧A4.tmp F 0 = .s s∧A4.tmp F 3=lS l) ?_ ?_ ?_ 0 _ _ (Nat.zero_le _) ?_ ?_
 ·rintro k F h hk p1 ⟨rfl,p2,p3⟩
  simp only [KP,go_sem,↓reduceIte,p1,p2,p3]
 ·rintro k F h hk p1 ⟨rfl,p2,p3⟩
  cases c0:decide (l[k]=s) <;>
  simp only [KP,go_sem,↓reduceIte,p1,p2,p3,Qr hk,c0]
  try exact ⟨_,rfl⟩
 ·rintro F h ⟨rfl,p2,p3⟩
  simp only [KP,go_sem,↓reduceIte]
  try exact ⟨_,rfl⟩
 all_goals try simp only [KP,go_sem,↓reduceIte]
theorem L5 (s:ByteArray) (hs:s.size≤1000):VP V Xc [.s s] fun x=>∃ b:Bool,x = .b b:=by
 rw [Ac C.c_z168.1 C.c_z168.2]
 cases c0:decide (s=bs []) with
 | true =>
  simp only [Ro,Dp,go_sem,↓reduceIte,c0]
  try exact ⟨_,rfl⟩
 | false =>
  cases c1:decide (8 < (s.size:Int)) with
  | true =>
   simp only [Ro,Dp,go_sem,↓reduceIte,c0,c1]
   try exact ⟨_,rfl⟩
  | false =>
   have hz:0 < s.size:=by
    rcases Nat.eq_zero_or_pos s.size with h | h
    ·exfalso
     have:s=bs []:=by
      cases s with
      | mk d=>
       have:d = #[]:=Array.eq_empty_of_size_eq_zero h
       rw [this]
     simp [this] at c0
    ·exact h
   obtain ⟨b0,hb0⟩:=ixS hz
   simp only [Ro,Dp,go_sem,↓reduceIte,c0,c1,hb0]
   refine (Mi C _).mono ?_
   rintro _ ⟨x0,rfl⟩
   cases x0 with
   | false =>
    simp only [Dp,go_sem,↓reduceIte]
    try exact ⟨_,rfl⟩
   | true =>
    simp only [Dp,go_sem,↓reduceIte]
    refine (Sr C s).mono ?_
    rintro _ ⟨x1,rfl⟩
    cases x1 with
    | true =>
     simp only [Dp,go_sem,↓reduceIte]
     try exact ⟨_,rfl⟩
    | false =>
     simp only [Dp,go_sem,↓reduceIte]
     refine Ai (by decide) s.size (by omega) (I:=fun k F h=>h=[]∧A4.tmp F 0 = .s s) ?_ ?_ ?_ 0 _ _ (Nat.zero_le _) ?_ ?_
     ·rintro k F h hk p1 ⟨rfl,p2⟩
      simp only [Dp,go_sem,↓reduceIte,p1,p2]
     ·rintro k F h hk p1 ⟨rfl,p2⟩
      obtain ⟨bk,hbk⟩:=ixS hk
      simp only [Dp,go_sem,↓reduceIte,p1,p2,hbk]
      refine (Mi C _).mono ?_
      rintro _ ⟨x0,rfl⟩
      cases x0 with
      | true =>
       simp only [Dp,go_sem,↓reduceIte,p1,p2]
      | false =>
       simp only [Dp,go_sem,↓reduceIte,p1,p2,hbk]
       refine (XZ C _).mono ?_
       rintro _ ⟨x0,rfl⟩
       cases x0 <;>
       simp only [Dp,go_sem,↓reduceIte,p1,p2]
       try exact ⟨_,rfl⟩
     ·rintro F h ⟨rfl,p2⟩
      simp only [Dp,go_sem,↓reduceIte]
      try exact ⟨_,rfl⟩
     all_goals try simp only [Dp,go_sem,↓reduceIte]
theorem A0f (r:List VV) (h:GE r):VP V XF [.ag r] fun x=>∃ k:Int,x = .i .i64 k:=by
 induction h with
 | mk op n nm kids hl hk ih =>
  rw [Ac C.c_z208.1 C.c_z208.2]
  simp only [A2i,JL,go_sem,↓reduceIte]
  refine Ai (by decide) kids.length (by omega) (I:=fun k F h=>h=[]∧A4.tmp F 1 = .fp [.i .i64 op,.i .i64 n,.s nm,.ls kids] 0∧∃ d:Int,A4.tmp F 3 = .i .i64 d) ?_ ?_ ?_ 0 _ _ (Nat.zero_le _) ?_ ?_
  ·rintro k F h hk' p1 ⟨rfl,p2,d,p3⟩
   simp only [JL,go_sem,↓reduceIte,p1,p2,p3]
   try exact ⟨d,rfl⟩
  ·rintro k F h hk' p1 ⟨rfl,p2,d,p3⟩
   have hg:=hk _ (List.getElem_mem hk')
   simp only [JL,go_sem,↓reduceIte,p1,p2,p3,T8 hk',hg.len,hg.take,hg.frz]
   refine (ih _ (List.getElem_mem hk')).mono ?_
   rintro _ ⟨e,rfl⟩
   cases c0:decide (d < e) <;>
   simp only [JL,go_sem,↓reduceIte,p1,p2,p3,c0]
  ·rintro F h ⟨rfl,p2,d,p3⟩
   simp only [JL,go_sem,↓reduceIte,p3]
   try exact ⟨_,rfl⟩
  all_goals try simp only [JL,go_sem,↓reduceIte]
  all_goals first | rfl | exact ⟨_,rfl⟩
theorem Qt (r:List VV) (h:GC r):VP V Xf [.ag r] fun x=>∃ k:Int,x = .i .i64 k:=by
 induction h with
 | mk op th nm n kids hl hk ih =>
  rw [Ac C.c_z171.1 C.c_z171.2]
  simp only [A1Q,JK,go_sem,↓reduceIte]
  refine Ai (by decide) kids.length (by omega) (I:=fun k F h=>h=[]∧A4.tmp F 1 = .fp [.i .i64 op,.i .i64 th,.s nm,.i .i64 n,.ls kids] 0∧∃ d:Int,A4.tmp F 3 = .i .i64 d) ?_ ?_ ?_ 0 _ _ (Nat.zero_le _) ?_ ?_
  ·rintro k F h hk' p1 ⟨rfl,p2,d,p3⟩
   simp only [JK,go_sem,↓reduceIte,p1,p2,p3]
   try exact ⟨d,rfl⟩
  ·rintro k F h hk' p1 ⟨rfl,p2,d,p3⟩
   have hg:=hk _ (List.getElem_mem hk')
   simp only [JK,go_sem,↓reduceIte,p1,p2,p3,T8 hk',hg.len,hg.take,hg.frz]
   refine (ih _ (List.getElem_mem hk')).mono ?_
   rintro _ ⟨e,rfl⟩
   cases c0:decide (d < e) <;>
   simp only [JK,go_sem,↓reduceIte,p1,p2,p3,c0]
  ·rintro F h ⟨rfl,p2,d,p3⟩
   simp only [JK,go_sem,↓reduceIte,p3]
   try exact ⟨_,rfl⟩
  all_goals try simp only [JK,go_sem,↓reduceIte]
  all_goals first | rfl | exact ⟨_,rfl⟩
theorem A3i (k n:Int):VP V XE [.i .i64 k,.i .i64 n] fun x=>∃ b:Bool,x = .b b:=by
 rw [Ac C.c_z207.1 C.c_z207.2]
 simp only [A2h,MH,go_sem,↓reduceIte,A0]
 repeat' first
 | (refine Bx (fun hx=>?_) (fun hx=>?_)<;>simp only [MH,go_sem,↓reduceIte,hx,A0])
 | (refine Bk (fun hx=>?_) (fun hx=>?_)<;>simp only [MH,go_sem,↓reduceIte,hx,A0])
 | (refine B8 (fun hx=>?_) (fun hx=>?_)<;>simp only [MH,go_sem,↓reduceIte,hx,A0])
 all_goals try exact ⟨_,rfl⟩
theorem Qg (vals:Int) (kn:List ByteArray) (hkn:kn.length≤1000) (r:List VV) (h:GE r):VP V XG [.ag r,.i .i64 vals,lS kn] fun x=>∃ k:Int,x = .i .i64 k:=by
  induction h with
  | mk op n nm kids hl hk ih =>
    rw [Ac C.c_z209.1 C.c_z209.2]
    have hin:=fun Q=>D9 C kn nm hkn (Q:=Q)
    simp only [A2j]
    refine BW (J:=fun F h=>h=[]∧A4.tmp F 1 = .i .i64 vals∧A4.tmp F 2=lS kn∧A4.tmp F 3 = .fp [.i .i64 op,.i .i64 n,.s nm,.ls kids] 0) ?_ ?_
    · simp only [BZ,go_sem,↓reduceIte]
    rintro F h ⟨rfl,p1,p2,p3⟩
    refine BW (J:=fun F h=>h=[]∧A4.tmp F 1 = .i .i64 vals∧A4.tmp F 2=lS kn∧A4.tmp F 3 = .fp [.i .i64 op,.i .i64 n,.s nm,.ls kids] 0∧∃ b:Bool,A4.tmp F 7 = .b b) ?_ ?_
    · simp only [BZ, go_sem, ↓reduceIte, p1, p2, p3]
      repeat' first
      | (refine Bx (fun hx=>?_) (fun hx=>?_)<;>simp only [BZ,go_sem,↓reduceIte,hx,p1,p2,p3])
      | (refine Bk (fun hx=>?_) (fun hx=>?_)<;>simp only [BZ,go_sem,↓reduceIte,hx,p1,p2,p3])
      | (refine B8 (fun hx=>?_) (fun hx=>?_)<;>simp only [BZ,go_sem,↓reduceIte,hx,p1,p2,p3])
    rintro F h ⟨rfl,p1,p2,p3,b,p4⟩
    refine BW (J:=fun F h=>h=[]∧A4.tmp F 1 = .i .i64 vals∧A4.tmp F 2=lS kn∧A4.tmp F 3 = .fp [.i .i64 op,.i .i64 n,.s nm,.ls kids] 0) ?_ ?_
    · cases b <;> simp only [BZ, go_sem, ↓reduceIte, p1, p2, p3, p4]
      all_goals repeat' first
                | (refine Bx (fun hx=>?_) (fun hx=>?_)<;>simp only [BZ,go_sem,↓reduceIte,hx,p1,p2,p3,p4])
                | (refine Bk (fun hx=>?_) (fun hx=>?_)<;>simp only [BZ,go_sem,↓reduceIte,hx,p1,p2,p3,p4])
                | (refine B8 (fun hx=>?_) (fun hx=>?_)<;>simp only [BZ,go_sem,↓reduceIte,hx,p1,p2,p3,p4])
    rintro F h ⟨rfl,p1,p2,p3⟩
    refine BW (J:=fun F h=>h=[]∧A4.tmp F 1 = .i .i64 vals∧A4.tmp F 2=lS kn∧A4.tmp F 3 = .fp [.i .i64 op,.i .i64 n,.s nm,.ls kids] 0) ?_ ?_
    · simp only [BZ, go_sem, ↓reduceIte, p1, p2, p3]
      repeat' first
      | (refine Bx (fun hx=>?_) (fun hx=>?_)<;>simp only [BZ,go_sem,↓reduceIte,hx,p1,p2,p3])
      | (refine Bk (fun hx=>?_) (fun hx=>?_)<;>simp only [BZ,go_sem,↓reduceIte,hx,p1,p2,p3])
      | (refine B8 (fun hx=>?_) (fun hx=>?_)<;>simp only [BZ,go_sem,↓reduceIte,hx,p1,p2,p3])
    rintro F h ⟨rfl,p1,p2,p3⟩
    refine BW (J:=fun F h=>h=[]∧A4.tmp F 1 = .i .i64 vals∧A4.tmp F 2=lS kn∧A4.tmp F 3 = .fp [.i .i64 op,.i .i64 n,.s nm,.ls kids] 0) ?_ ?_
    · simp only [BZ, go_sem, ↓reduceIte, p1, p2, p3]
      repeat' first
      | (refine Bx (fun hx=>?_) (fun hx=>?_)<;>simp only [BZ,go_sem,↓reduceIte,hx,p1,p2,p3])
      | (refine Bk (fun hx=>?_) (fun hx=>?_)<;>simp only [BZ,go_sem,↓reduceIte,hx,p1,p2,p3])
      | (refine B8 (fun hx=>?_) (fun hx=>?_)<;>simp only [BZ,go_sem,↓reduceIte,hx,p1,p2,p3])
    rintro F h ⟨rfl,p1,p2,p3⟩
    refine BW (J:=fun F h=>h=[]∧A4.tmp F 1 = .i .i64 vals∧A4.tmp F 2=lS kn∧A4.tmp F 3 = .fp [.i .i64 op,.i .i64 n,.s nm,.ls kids] 0) ?_ ?_
    · cases c0 : decide (op = 2) <;> cases c1 : (kn.any fun y => decide (nm = y)) <;>
      simp only [BZ,go_sem,↓reduceIte,p1,p2,p3,c0,hin,c1]
    rintro F h ⟨rfl,p1,p2,p3⟩
    simp only [BZ,go_sem,↓reduceIte,p1,p2,p3]
    refine Ai (by decide) kids.length (by omega) (I:=fun k F h=>h=[]∧A4.tmp F 1 = .i .i64 vals∧A4.tmp F 2=lS kn∧A4.tmp F 3 = .fp [.i .i64 op,.i .i64 n,.s nm,.ls kids] 0) ?_ ?_ ?_ 0 _ _ (Nat.zero_le _) ?_ ?_
    · rintro k F h hk' q0 ⟨rfl, q1, q2, q3⟩
      simp only [BZ,go_sem,↓reduceIte,q0,q1,q2,q3]
    · rintro k F h hk' q0 ⟨rfl, q1, q2, q3⟩
      have hg:=hk _ (List.getElem_mem hk')
      simp only [BZ,go_sem,↓reduceIte,q0,q1,q2,q3,T8 hk',hg.len,hg.take,hg.frz]
      refine (ih _ (List.getElem_mem hk')).mono ?_
      rintro _ ⟨e,rfl⟩
      cases c0:decide (e=0) <;>
      simp only [BZ,go_sem,↓reduceIte,q0,q1,q2,q3,c0]
      try exact ⟨_,rfl⟩
    · rintro F h ⟨rfl, q1, q2, q3⟩
      simp only [BZ,go_sem,↓reduceIte]
      try exact ⟨_,rfl⟩
    all_goals try simp only [BZ,go_sem,↓reduceIte,p1,p2,p3]
theorem A0e (vals:Int) (locs:List ByteArray) (hlo:locs.length≤1000) (regs:List (List ByteArray)) (hrl:regs.length≤1000) (hre:∀ l∈regs,l.length≤1000) (r:List VV) (h:GC r):VP V Xg [.ag r,.i .i64 vals,lS locs,.ls (regs.map J9)] fun x=>∃ k:Int,x = .i .i64 k:=by
 induction h with
 | mk op th nm n kids hl hk ih =>
  rw [Ac C.c_z172.1 C.c_z172.2]
  have hin:=fun Q=>D9 C locs nm hlo (Q:=Q)
  simp only [A1R]
  refine BW (J:=fun F h=>h=[]∧A4.tmp F 1 = .i .i64 vals∧A4.tmp F 2=lS locs∧A4.tmp F 3 = .ls (regs.map J9)∧A4.tmp F 4 = .fp [.i .i64 op,.i .i64 th,.s nm,.i .i64 n,.ls kids] 0) ?_ ?_
  ·simp only [Bh,go_sem,↓reduceIte]
  rintro F h ⟨rfl,p1,p2,p3,p4⟩
  refine BW (J:=fun F h=>(h=[]∧A4.tmp F 1 = .i .i64 vals∧A4.tmp F 2=lS locs∧A4.tmp F 3 = .ls (regs.map J9)∧A4.tmp F 4 = .fp [.i .i64 op,.i .i64 th,.s nm,.i .i64 n,.ls kids] 0)∧∃ k:Int,A4.tmp F 9 = .i .i64 k) ?_ ?_
  ·simp only [Bh,go_sem,↓reduceIte,p1,p2,p3,p4]
   try exact ⟨_,rfl⟩
  rintro F h ⟨⟨rfl,p1,p2,p3,p4⟩,k9,p9⟩
  refine BW (J:=fun F h=>(h=[]∧A4.tmp F 1 = .i .i64 vals∧A4.tmp F 2=lS locs∧A4.tmp F 3 = .ls (regs.map J9)∧A4.tmp F 4 = .fp [.i .i64 op,.i .i64 th,.s nm,.i .i64 n,.ls kids] 0)∧∃ k:Int,A4.tmp F 9 = .i .i64 k) ?_ ?_
  ·simp only [Bh,go_sem,↓reduceIte,p1,p2,p3,p4,p9,A0]
   repeat' first
   | (refine Bx (fun hx=>?_) (fun hx=>?_)<;>simp only [Bh,go_sem,↓reduceIte,hx,p1,p2,p3,p4,p9,A0])
   | (refine Bk (fun hx=>?_) (fun hx=>?_)<;>simp only [Bh,go_sem,↓reduceIte,hx,p1,p2,p3,p4,p9,A0])
   | (refine B8 (fun hx=>?_) (fun hx=>?_)<;>simp only [Bh,go_sem,↓reduceIte,hx,p1,p2,p3,p4,p9,A0])
   all_goals try exact ⟨_,rfl⟩
  rintro F h ⟨⟨rfl,p1,p2,p3,p4⟩,k9,p9⟩
  refine BW (J:=fun F h=>h=[]∧A4.tmp F 1 = .i .i64 vals∧A4.tmp F 2=lS locs∧A4.tmp F 3 = .ls (regs.map J9)∧A4.tmp F 4 = .fp [.i .i64 op,.i .i64 th,.s nm,.i .i64 n,.ls kids] 0) ?_ ?_
  ·simp only [Bh,go_sem,↓reduceIte,p1,p2,p3,p4,p9]
   repeat' first
   | (refine Bx (fun hx=>?_) (fun hx=>?_)<;>simp only [Bh,go_sem,↓reduceIte,hx,p1,p2,p3,p4,p9])
   | (refine Bk (fun hx=>?_) (fun hx=>?_)<;>simp only [Bh,go_sem,↓reduceIte,hx,p1,p2,p3,p4,p9])
   | (refine B8 (fun hx=>?_) (fun hx=>?_)<;>simp only [Bh,go_sem,↓reduceIte,hx,p1,p2,p3,p4,p9])
  rintro F h ⟨rfl,p1,p2,p3,p4⟩
  refine BW (J:=fun F h=>h=[]∧A4.tmp F 1 = .i .i64 vals∧A4.tmp F 2=lS locs∧A4.tmp F 3 = .ls (regs.map J9)∧A4.tmp F 4 = .fp [.i .i64 op,.i .i64 th,.s nm,.i .i64 n,.ls kids] 0) ?_ ?_
  ·by_cases c1:th < 0
   ·simp only [Bh,go_sem,↓reduceIte,p1,p2,p3,p4,c1,A0,hin]
    repeat' first
    | (refine Bx (fun hx=>?_) (fun hx=>?_)<;>simp only [Bh,go_sem,↓reduceIte,hx,p1,p2,p3,p4,c1,A0,hin])
    | (refine Bk (fun hx=>?_) (fun hx=>?_)<;>simp only [Bh,go_sem,↓reduceIte,hx,p1,p2,p3,p4,c1,A0,hin])
    | (refine B8 (fun hx=>?_) (fun hx=>?_)<;>simp only [Bh,go_sem,↓reduceIte,hx,p1,p2,p3,p4,c1,A0,hin])
   ·by_cases c2:(regs.length:Int)≤th
    ·simp only [Bh,go_sem,↓reduceIte,p1,p2,p3,p4,c1,c2,A0,hin]
     repeat' first
     | (refine Bx (fun hx=>?_) (fun hx=>?_)<;>simp only [Bh,go_sem,↓reduceIte,hx,p1,p2,p3,p4,c1,c2,A0,hin])
     | (refine Bk (fun hx=>?_) (fun hx=>?_)<;>simp only [Bh,go_sem,↓reduceIte,hx,p1,p2,p3,p4,c1,c2,A0,hin])
     | (refine B8 (fun hx=>?_) (fun hx=>?_)<;>simp only [Bh,go_sem,↓reduceIte,hx,p1,p2,p3,p4,c1,c2,A0,hin])
    ·obtain ⟨m,rfl⟩:=Int.eq_ofNat_of_zero_le (by omega:0≤th)
     have hm:m < regs.length:=by omega
     have hin2:=fun Q=>D9 C (regs.getD m []) nm (hre _ (Ap hm)) (Q:=Q)
     simp only [Bh,go_sem,↓reduceIte,p1,p2,p3,p4,c1,c2,A0,hin,hin2,KD hm]
     repeat' first
     | (refine Bx (fun hx=>?_) (fun hx=>?_)<;>simp only [Bh,go_sem,↓reduceIte,hx,p1,p2,p3,p4,c1,c2,A0,hin,hin2,KD hm])
     | (refine Bk (fun hx=>?_) (fun hx=>?_)<;>simp only [Bh,go_sem,↓reduceIte,hx,p1,p2,p3,p4,c1,c2,A0,hin,hin2,KD hm])
     | (refine B8 (fun hx=>?_) (fun hx=>?_)<;>simp only [Bh,go_sem,↓reduceIte,hx,p1,p2,p3,p4,c1,c2,A0,hin,hin2,KD hm])
  rintro F h ⟨rfl,p1,p2,p3,p4⟩
  refine BW (J:=fun F h=>h=[]∧A4.tmp F 1 = .i .i64 vals∧A4.tmp F 2=lS locs∧A4.tmp F 3 = .ls (regs.map J9)∧A4.tmp F 4 = .fp [.i .i64 op,.i .i64 th,.s nm,.i .i64 n,.ls kids] 0) ?_ ?_
  ·simp only [Bh,go_sem,↓reduceIte,p1,p2,p3,p4]
   repeat' first
   | (refine Bx (fun hx=>?_) (fun hx=>?_)<;>simp only [Bh,go_sem,↓reduceIte,hx,p1,p2,p3,p4])
   | (refine Bk (fun hx=>?_) (fun hx=>?_)<;>simp only [Bh,go_sem,↓reduceIte,hx,p1,p2,p3,p4])
   | (refine B8 (fun hx=>?_) (fun hx=>?_)<;>simp only [Bh,go_sem,↓reduceIte,hx,p1,p2,p3,p4])
  rintro F h ⟨rfl,p1,p2,p3,p4⟩
  simp only [Bh,go_sem,↓reduceIte,p1,p2,p3,p4]
  refine Ai (by decide) kids.length (by omega) (I:=fun k F h=>h=[]∧A4.tmp F 1 = .i .i64 vals∧A4.tmp F 2=lS locs∧A4.tmp F 3 = .ls (regs.map J9)∧A4.tmp F 4 = .fp [.i .i64 op,.i .i64 th,.s nm,.i .i64 n,.ls kids] 0) ?_ ?_ ?_ 0 _ _ (Nat.zero_le _) ?_ ?_
  ·rintro k F h hk' q0 ⟨rfl,q1,q2,q3,q4⟩
   simp only [Bh,go_sem,↓reduceIte,q0,q1,q2,q3,q4]
  ·rintro k F h hk' q0 ⟨rfl,q1,q2,q3,q4⟩
   have hg:=hk _ (List.getElem_mem hk')
   simp only [Bh,go_sem,↓reduceIte,q0,q1,q2,q3,q4,T8 hk',hg.len,hg.take,hg.frz]
   refine (ih _ (List.getElem_mem hk')).mono ?_
   rintro _ ⟨e,rfl⟩
   cases c0:decide (e=0) <;>
   simp only [Bh,go_sem,↓reduceIte,q0,q1,q2,q3,q4,c0]
   try exact ⟨_,rfl⟩
  ·rintro F h ⟨rfl,q1,q2,q3,q4⟩
   simp only [Bh,go_sem,↓reduceIte]
   try exact ⟨_,rfl⟩
  all_goals try simp only [Bh,go_sem,↓reduceIte,p1,p2,p3,p4]
theorem A0g (nm:ByteArray) (hnm:nm.size≤1000) (vals:Int) (ini thr:List (List VV)) (ask:Int) (c:List VV) (hc:GC c):VP V Xb [.ag ([.s nm,.i .i64 vals,.ls ini,.ls thr,.i .i64 ask]++c)] fun x=>∃ k:Int,x = .i .i64 k:=by
  cases hc
  rw [Ac C.c_z167.1 C.c_z167.2]
  simp only [A1N,KM,go_sem,↓reduceIte,A0]
  refine (L5 C nm hnm).mono ?_
  rintro _ ⟨b,rfl⟩
  cases b<;>simp only [KM,go_sem,↓reduceIte,A0]
  all_goals repeat' first
            | (refine Bx (fun hx=>?_) (fun hx=>?_)<;>simp only [KM,go_sem,↓reduceIte,hx,A0])
            | (refine Bk (fun hx=>?_) (fun hx=>?_)<;>simp only [KM,go_sem,↓reduceIte,hx,A0])
            | (refine B8 (fun hx=>?_) (fun hx=>?_)<;>simp only [KM,go_sem,↓reduceIte,hx,A0])
  all_goals try exact ⟨_,rfl⟩
abbrev LOo (locs:List ByteArray):Option VO:=some (AL QY 1 (locs.map eS))
abbrev WKo (vals:Int) (nl:Nat) (kn:VV) (n part:Int):Option VO:=some ⟨P9,0,0,false,[[.i .i64 vals,.sl 0 nl 0 nl,kn,.i .i64 n,.i .i64 part]]⟩
def KN (kn:VV):Prop:=∃ l:List ByteArray,l.length≤4∧(kn=lS l∨(kn = .nl∧l=[]))
def HW (locs:List ByteArray) (RG:Option VO) (vals:Int) (nl:Nat) (part:Int) (r h:VH):Prop:=∃ (kn:VV) (n:Int) (s:VH),KN kn∧h=LOo locs::RG::WKo vals nl kn n part::(r++s)
def isI (v:VV):Prop:=∃ k:Int,v = .i .i64 k
omit C in
theorem KN.bel {kn:VV} (h:KN kn) {L:Nat}:bel L kn=true:=by
 obtain ⟨l,_,rfl | ⟨rfl,_⟩⟩:=h<;>rfl
theorem A3j (lc:List ByteArray) (locs:List ByteArray) (nl:Nat) (hnl:nl=locs.length) (hlo:locs.length≤1000) (vals:Int) (RG:Option VO) (part ifs:Int) (row:List VV) (hr:GS lc row) (kn:VV) (hkn:KN kn) (n:Int) (r:VH) :
    LS V MQ [.p 2 0 0 0,.ag row,.i .i64 ifs] (LOo locs::RG::WKo vals nl kn n part::r) fun v h'=>isI v∧HW locs RG vals nl part r h':=by
  cases hr with
  | mk kind mode reg loc args th el ha1 ha2 ht1 ht2 ht3 ht4 hok =>
  have hre:=hok.rs
  subst hnl
  rw [Eu C.h_z197]
  simp only [Rs]
  refine BW (J:=fun F h=>HW locs RG vals locs.length part r h∧A4.tmp F 0 = .p 2 0 0 0∧A4.tmp F 2 = .i .i64 ifs∧A4.tmp F 4 = .fp (rS kind mode reg loc args th el) 0) ?_ ?_
  · simp only [AI, go_sem, ↓reduceIte]
    exact ⟨kn,n,[],hkn,by simp⟩
  rintro F h ⟨⟨kn,n,s,hkn,rfl⟩,p0,p2,p4⟩
  refine BW (J:=fun F h=>HW locs RG vals locs.length part r h∧A4.tmp F 0 = .p 2 0 0 0∧A4.tmp F 2 = .i .i64 ifs∧A4.tmp F 4 = .fp (rS kind mode reg loc args th el) 0) ?_ ?_
  · simp only [AI, go_sem, ↓reduceIte, p0, p2, p4]
    exact ⟨_,_,_,hkn,rfl⟩
  rintro F h ⟨⟨kn,n,s,hkn,rfl⟩,p0,p2,p4⟩
  refine BW (J:=fun F h=>HW locs RG vals locs.length part r h∧A4.tmp F 0 = .p 2 0 0 0∧A4.tmp F 2 = .i .i64 ifs∧A4.tmp F 4 = .fp (rS kind mode reg loc args th el) 0) ?_ ?_
  · simp only [AI, go_sem, ↓reduceIte, p0, p2, p4]
    repeat' first
    | (refine Bx (fun hx=>?_) (fun hx=>?_)<;>simp only [AI,go_sem,↓reduceIte,hx,p0,p2,p4])
    | (refine Bk (fun hx=>?_) (fun hx=>?_)<;>simp only [AI,go_sem,↓reduceIte,hx,p0,p2,p4])
    | (refine B8 (fun hx=>?_) (fun hx=>?_)<;>simp only [AI,go_sem,↓reduceIte,hx,p0,p2,p4])
    all_goals first | exact ⟨_,_,_,hkn,rfl⟩ | exact ⟨⟨_,rfl⟩,_,_,_,hkn,rfl⟩
  rintro F h ⟨⟨kn,n,s,hkn,rfl⟩,p0,p2,p4⟩
  refine BW (J:=fun F h=>HW locs RG vals locs.length part r h∧A4.tmp F 0 = .p 2 0 0 0∧A4.tmp F 2 = .i .i64 ifs∧A4.tmp F 4 = .fp (rS kind mode reg loc args th el) 0∧isI (A4.tmp F 7)) ?_ ?_
  · simp only [AI, go_sem, ↓reduceIte, p0, p2, p4]
    exact ⟨⟨_,_,_,hkn,rfl⟩,⟨_,rfl⟩⟩
  rintro F h ⟨⟨kn,n,s,hkn,rfl⟩,p0,p2,p4,k7,p7⟩
  refine BW (J:=fun F h=>HW locs RG vals locs.length part r h∧A4.tmp F 0 = .p 2 0 0 0∧A4.tmp F 2 = .i .i64 ifs∧A4.tmp F 4 = .fp (rS kind mode reg loc args th el) 0∧isI (A4.tmp F 7)) ?_ ?_
  · simp only [AI, go_sem, ↓reduceIte, p0, p2, p4, p7, A0]
    repeat' first
    | (refine Bx (fun hx=>?_) (fun hx=>?_)<;>simp only [AI,go_sem,↓reduceIte,hx,p0,p2,p4,p7,A0])
    | (refine Bk (fun hx=>?_) (fun hx=>?_)<;>simp only [AI,go_sem,↓reduceIte,hx,p0,p2,p4,p7,A0])
    | (refine B8 (fun hx=>?_) (fun hx=>?_)<;>simp only [AI,go_sem,↓reduceIte,hx,p0,p2,p4,p7,A0])
    all_goals first | exact ⟨⟨_,_,_,hkn,rfl⟩,⟨_,rfl⟩⟩ | skip
  rintro F h ⟨⟨kn,n,s,hkn,rfl⟩,p0,p2,p4,k7,p7⟩
  obtain ⟨_,⟨bm,rfl⟩,qm⟩:=Db (A3i C kind mode)
  refine BW (J:=fun F h=>HW locs RG vals locs.length part r h∧A4.tmp F 0 = .p 2 0 0 0∧A4.tmp F 2 = .i .i64 ifs∧A4.tmp F 4 = .fp (rS kind mode reg loc args th el) 0) ?_ ?_
  · cases bm <;> simp only [AI, go_sem, ↓reduceIte, p0, p2, p4, p7, qm]
    all_goals repeat' first
              | (refine Bx (fun hx=>?_) (fun hx=>?_)<;>simp only [AI,go_sem,↓reduceIte,hx,p0,p2,p4,p7,qm])
              | (refine Bk (fun hx=>?_) (fun hx=>?_)<;>simp only [AI,go_sem,↓reduceIte,hx,p0,p2,p4,p7,qm])
              | (refine B8 (fun hx=>?_) (fun hx=>?_)<;>simp only [AI,go_sem,↓reduceIte,hx,p0,p2,p4,p7,qm])
    all_goals first | exact ⟨_,_,_,hkn,rfl⟩ | exact ⟨⟨_,rfl⟩,_,_,_,hkn,rfl⟩
  rintro F h ⟨⟨kn,n,s,hkn,rfl⟩,p0,p2,p4⟩
  refine BW (J:=fun F h=>HW locs RG vals locs.length part r h∧A4.tmp F 0 = .p 2 0 0 0∧A4.tmp F 2 = .i .i64 ifs∧A4.tmp F 4 = .fp (rS kind mode reg loc args th el) 0∧KN (A4.tmp F 8)) ?_ ?_
  · simp only [AI, go_sem, ↓reduceIte, p0, p2, p4]
    exact ⟨⟨_,_,_,hkn,rfl⟩,hkn⟩
  rintro F h ⟨⟨kn,n,s,hkn,rfl⟩,p0,p2,p4,h8⟩
  obtain ⟨_,⟨bn,rfl⟩,qn⟩:=Db (L5 C reg hre)
  refine BW (J:=fun F h=>HW locs RG vals locs.length part r h∧A4.tmp F 0 = .p 2 0 0 0∧A4.tmp F 2 = .i .i64 ifs∧A4.tmp F 4 = .fp (rS kind mode reg loc args th el) 0∧KN (A4.tmp F 8)) ?_ ?_
  · have q1 := fun Q => D9 C locs reg hlo (Q := Q)
    have q0:=fun Q=>D9 C [] reg (by simp) (Q:=Q)
    simp only [lS,List.map_nil,List.any_nil] at q0
    obtain ⟨l8,hl8,e8⟩:=h8
    have q2:=fun Q=>D9 C l8 reg (by omega) (Q:=Q)
    have b0:l8.length * 16≤A7:=by unfold A7;omega
    have b1:(l8.length+1) * 16≤A7:=by unfold A7;omega
    have b2:(0+1) * 16≤A7:=by unfold A7;omega
    have h8:KN (A4.tmp F 8):=⟨l8,hl8,e8⟩
    cases c0:H9 kind with
    | false =>
      simp only [AI,go_sem,↓reduceIte,p0,p2,p4,Ck C,c0]
      repeat' first
      | (refine Bx (fun hx=>?_) (fun hx=>?_)<;>simp only [AI,go_sem,↓reduceIte,hx,p0,p2,p4])
      | (refine Bk (fun hx=>?_) (fun hx=>?_)<;>simp only [AI,go_sem,↓reduceIte,hx,p0,p2,p4])
      | (refine B8 (fun hx=>?_) (fun hx=>?_)<;>simp only [AI,go_sem,↓reduceIte,hx,p0,p2,p4])
      all_goals first | exact ⟨⟨_,_,_,hkn,rfl⟩,h8⟩ | exact ⟨⟨_,rfl⟩,_,_,_,hkn,rfl⟩
    | true =>
      cases bn with
      | false =>
        simp only [AI,go_sem,↓reduceIte,p0,p2,p4,Ck C,c0,qn]
        exact ⟨⟨_,rfl⟩,_,_,_,hkn,rfl⟩
      | true =>
        cases c1:locs.any fun y=>decide (reg=y) with
        | true =>
          simp only [AI,go_sem,↓reduceIte,p0,p2,p4,Ck C,c0,qn,q1,c1]
          exact ⟨⟨_,rfl⟩,_,_,_,hkn,rfl⟩
        | false =>
          rcases e8 with p8 | ⟨p8,rfl⟩
          · cases c2:l8.any fun y=>decide (reg=y) with
            | true =>
              simp only [AI,go_sem,↓reduceIte,p0,p2,p4,p8,Ck C,c0,qn,q1,c1,q2,c2]
              exact ⟨⟨_,_,_,hkn,rfl⟩,⟨l8,hl8,.inl rfl⟩⟩
            | false =>
              cases c3:decide ((l8.length:Int)=4) with
              | true =>
                simp only [AI,go_sem,↓reduceIte,p0,p2,p4,p8,Ck C,c0,qn,q1,c1,q2,c2,c3]
                exact ⟨⟨_,rfl⟩,_,_,_,hkn,rfl⟩
              | false =>
                have c3':¬ (l8.length:Int)=4:=by simpa using c3
                simp only [AI,go_sem,↓reduceIte,p0,p2,p4,p8,Ck C,c0,qn,q1,c1,q2,c2,c3,b0,b1]
                exact ⟨⟨_,_,s++[none],⟨l8++[reg],by simp;omega,.inl rfl⟩,rfl⟩,⟨l8,hl8,.inl rfl⟩⟩
          · simp only [AI, go_sem, ↓reduceIte, p0, p2, p4, p8, Ck C, c0, qn, q1, c1, q0, b2]
            exact ⟨⟨_,_,s++[none],⟨[reg],by simp,.inl rfl⟩,rfl⟩,⟨[],by simp,.inr ⟨rfl,rfl⟩⟩⟩
  rintro F h ⟨⟨kn,n,s,hkn,rfl⟩,p0,p2,p4,h8⟩
  refine BW (J:=fun F h=>HW locs RG vals locs.length part r h∧A4.tmp F 0 = .p 2 0 0 0∧A4.tmp F 2 = .i .i64 ifs∧A4.tmp F 4 = .fp (rS kind mode reg loc args th el) 0∧KN (A4.tmp F 8)) ?_ ?_
  · have q1 := fun Q => D9 C locs loc hlo (Q := Q)
    simp only [AI,go_sem,↓reduceIte,p0,p2,p4,A0,q1]
    repeat' first
    | (refine Bx (fun hx=>?_) (fun hx=>?_)<;>simp only [AI,go_sem,↓reduceIte,hx,p0,p2,p4,A0,q1])
    | (refine Bk (fun hx=>?_) (fun hx=>?_)<;>simp only [AI,go_sem,↓reduceIte,hx,p0,p2,p4,A0,q1])
    | (refine B8 (fun hx=>?_) (fun hx=>?_)<;>simp only [AI,go_sem,↓reduceIte,hx,p0,p2,p4,A0,q1])
    all_goals first | exact ⟨⟨_,_,_,hkn,rfl⟩,h8⟩ | exact ⟨⟨_,rfl⟩,_,_,_,hkn,rfl⟩
  rintro F h ⟨⟨kn,n,s,hkn,rfl⟩,p0,p2,p4,h8⟩
  simp only [AI,go_sem,↓reduceIte,p0,p2,p4]
  refine Ai (by decide) args.length (by omega) (I:=fun k F h=>HW locs RG vals locs.length part r h∧A4.tmp F 0 = .p 2 0 0 0∧A4.tmp F 4 = .fp (rS kind mode reg loc args th el) 0∧KN (A4.tmp F 8)) ?_ ?_ ?_ 0 _ _ (Nat.zero_le _) ?_ ?_
  · rintro k F h hk q0 ⟨⟨kn, n, s, hkn, rfl⟩, p0, p4, h8⟩
    simp only [AI,go_sem,↓reduceIte,q0,p0,p4]
    exact ⟨⟨_,_,_,hkn,rfl⟩,h8⟩
  · rintro k F h hk q0 ⟨⟨kn, n, s, hkn, rfl⟩, p0, p4, l8, hl8, e8⟩
    have hg:=ha2 _ (List.getElem_mem hk)
    obtain ⟨_,⟨d,rfl⟩,qd⟩:=Db (A0f C _ hg)
    obtain ⟨_,⟨ex,rfl⟩,qe⟩:=Db (Qg C vals l8 (by omega) _ hg)
    obtain ⟨_,⟨ex0,rfl⟩,qe0⟩:=Db (Qg C vals [] (by simp) _ hg)
    simp only [lS,List.map_nil] at qe0
    cases c0:decide (6 < d) with
    | true =>
      simp only [AI,go_sem,↓reduceIte,q0,p0,p4,T8 hk,hg.len,hg.take,hg.frz,qd,c0]
      exact ⟨⟨_,rfl⟩,_,_,_,hkn,rfl⟩
    | false =>
      rcases e8 with p8 | ⟨p8,rfl⟩
      · cases c1 : decide (ex = 0) <;>
        simp only [AI,go_sem,↓reduceIte,q0,p0,p4,p8,T8 hk,hg.len,hg.take,hg.frz,qd,qe,c0,c1]
        · exact ⟨⟨_,rfl⟩,_,_,_,hkn,rfl⟩
        · exact ⟨⟨_,_,_,hkn,rfl⟩,⟨l8,hl8,.inl rfl⟩⟩
      · cases c1 : decide (ex0 = 0) <;>
        simp only [AI,go_sem,↓reduceIte,q0,p0,p4,p8,T8 hk,hg.len,hg.take,hg.frz,qd,qe0,c0,c1]
        · exact ⟨⟨_,rfl⟩,_,_,_,hkn,rfl⟩
        · exact ⟨⟨_,_,_,hkn,rfl⟩,⟨[],by simp,.inr ⟨rfl,rfl⟩⟩⟩
  · rintro F h ⟨⟨kn, n, s, hkn, rfl⟩, p0, p4, h8⟩
    simp only [AI,go_sem,↓reduceIte]
    exact ⟨⟨_,rfl⟩,_,_,_,hkn,rfl⟩
  · simp only [AI,go_sem,↓reduceIte]
  · simp only [AI, go_sem, ↓reduceIte, p0, p2, p4]
    exact ⟨⟨_,_,_,hkn,rfl⟩,h8⟩
def HW2 (locs:List ByteArray) (RG:Option VO) (vals:Int) (r h:VH):Prop:=∃ part,HW locs RG vals locs.length part r h
def A6a (V:Am) (locs:List ByteArray) (RG:Option VO) (vals:Int) (l:List (List VV)):Prop:=∀ (ifs:Int) (kn:VV) (n part:Int) (r:VH),KN kn →
 LS V Xe [.p 2 0 0 0,.ls l,.i .i64 ifs] (LOo locs::RG::WKo vals locs.length kn n part::r) fun v h'=>isI v∧HW2 locs RG vals r h'
theorem HZ (lc locs:List ByteArray) (hlo:locs.length≤1000) (vals:Int) (RG:Option VO) (l:List (List VV)) (hl:l.length≤1000) (hs:∀ s∈l,GS lc s∧∃ kind mode reg loc args th el,s=rS kind mode reg loc args th el∧A6a V locs RG vals th∧A6a V locs RG vals el):A6a V locs RG vals l:=by
 intro ifs kn n part r hkn
 rw [Eu C.h_z170]
 simp only [A1P,DR,go_sem,↓reduceIte]
 refine Ai (by decide) l.length (by omega) (I:=fun k F h=>HW2 locs RG vals r h∧A4.tmp F 0 = .p 2 0 0 0∧A4.tmp F 1 = .ls l∧A4.tmp F 2 = .i .i64 ifs) ?_ ?_ ?_ 0 _ _ (Nat.zero_le _) ?_ ?_
 ·rintro k F h hk q0 ⟨⟨part,kn,n,s,hkn,rfl⟩,p0,p1,p2⟩
  simp only [DR,go_sem,↓reduceIte,q0,p0,p1,p2]
  exact ⟨_,_,_,_,hkn,rfl⟩
 ·rintro k F h hk q0 ⟨⟨part,kn,n,s,hkn,rfl⟩,p0,p1,p2⟩
  obtain ⟨hg,kind,mode,reg,loc,args,th,el,e,a1,a2⟩:=hs _ (List.getElem_mem hk)
  have hk2:=T8 hk
  rw [e] at hk2
  rw [e] at hg
  obtain ⟨_,_,⟨⟨e1,rfl⟩,kn1,n1,s1,hkn1,rfl⟩,c1⟩:=DT (A3j C lc locs locs.length rfl hlo vals RG part ifs _ hg kn hkn n (r++s))
  obtain ⟨_,_,⟨⟨e2,rfl⟩,part2,kn2,n2,s2,hkn2,rfl⟩,c2⟩:=DT (a1 (IntKind.i64.wrap (ifs+1)) kn1 n1 (IntKind.i64.wrap (part+1)) (r++(s++s1)) hkn1)
  obtain ⟨_,_,⟨⟨e3,rfl⟩,part3,kn3,n3,s3,hkn3,rfl⟩,c3⟩:=DT (a2 (IntKind.i64.wrap (ifs+1)) kn2 n2 part2 (r++(s++(s1++s2))) hkn2)
  simp only [List.append_assoc] at c1 c2 c3
  cases z1:decide (e1=0) with
  | false =>
   simp only [DR,go_sem,↓reduceIte,q0,p0,p1,p2,hk2,c1,z1]
   exact ⟨⟨_,rfl⟩,_,_,_,_,hkn1,rfl⟩
  | true =>
   cases z2:decide (e2=0) with
   | false =>
    simp only [DR,go_sem,↓reduceIte,q0,p0,p1,p2,hk2,c1,z1,c2,z2]
    exact ⟨⟨_,rfl⟩,_,_,_,_,hkn2,rfl⟩
   | true =>
    cases z3:decide (e3=0) with
    | false =>
     simp only [DR,go_sem,↓reduceIte,q0,p0,p1,p2,hk2,c1,z1,c2,z2,c3,z3]
     exact ⟨⟨_,rfl⟩,_,_,_,_,hkn3,rfl⟩
    | true =>
     simp only [DR,go_sem,↓reduceIte,q0,p0,p1,p2,hk2,c1,z1,c2,z2,c3,z3]
     exact ⟨.inr hkn3.bel,_,_,_,_,hkn3,rfl⟩
 ·rintro F h ⟨⟨part,kn,n,s,hkn,rfl⟩,p0,p1,p2⟩
  simp only [DR,go_sem,↓reduceIte]
  exact ⟨⟨_,rfl⟩,_,_,_,_,hkn,rfl⟩
 ·simp only [DR,go_sem,↓reduceIte]
 ·simp only [DR,go_sem,↓reduceIte]
  exact ⟨part,kn,n,[],hkn,by simp⟩
theorem A0d {lc locs:List ByteArray} (hlo:locs.length≤1000) {vals:Int} {RG:Option VO} {r:List VV} (h:GS lc r):∃ kind mode reg loc args th el,r=rS kind mode reg loc args th el∧A6a V locs RG vals th∧A6a V locs RG vals el:=by
 induction h with
 | mk kind mode reg loc args th el h1 h2 h3 h4 h5 h6 h7 ih1 ih2=>exact ⟨kind,mode,reg,loc,args,th,el,rfl,HZ C lc locs hlo vals RG th h3 fun s hs=>⟨h5 s hs,ih1 s hs⟩,HZ C lc locs hlo vals RG el h4 fun s hs=>⟨h6 s hs,ih2 s hs⟩⟩
theorem A3h {lc locs:List ByteArray} (hlo:locs.length≤1000) {vals:Int} {RG:Option VO} (l:List (List VV)) (hl:l.length≤1000) (h:∀ s∈l,GS lc s):A6a V locs RG vals l :=
 HZ C lc locs hlo vals RG l hl fun s hs=>⟨h s hs,A0d C hlo (h s hs)⟩
def RG2 (L:List ByteArray) (k:Nat) (h:VH):Prop:=∃ rg:List (List ByteArray),rg.length=k∧(∀ l∈rg,l.length≤4)∧h=[some (AL QY 1 (L.map eS)),some (AL BM 1 (rg.map J9))]
omit C in
theorem GK {ty e v:Nat} {α:Type} {xs:List α} {x:α} {f:α→List VV} (hv:v=xs.length+1):({ ty:=ty,esz:=e,ver:=v,nl:=false,rows:=(xs++[x]).map f }:VO)=AL ty e ((xs++[x]).map f):=by
 subst hv;exact Jx
structure GP (nm:ByteArray) (vals:Int) (ini:List (ByteArray×Int)) (thr:List (List (List VV))) (ask:Int) (c:List VV):Prop where
 g1:nm.size≤1000
 g2:ini.length≤1000
 g3:∀ x∈ini,x.1.size≤1000
 g4:thr.length≤1000
 g5:∀ l∈thr,l.length≤1000∧∀ s∈l,GS (ini.map (·.1)) s
 g6:GC c
abbrev eCl (x:ByteArray×Int):List VV:=[.s x.1,.i .i64 x.2]
abbrev vPr (nm:ByteArray) (vals:Int) (ini:List (ByteArray×Int)) (thr:List (List (List VV))) (ask:Int) (c:List VV):VV:=.ag ([.s nm,.i .i64 vals,.ls (ini.map eCl),.ls (thr.map fun l=>[.ls l]),.i .i64 ask]++c)
theorem A3g (nm:ByteArray) (vals:Int) (ini:List (ByteArray×Int)) (thr:List (List (List VV))) (ask:Int) (c:List VV) (h:GP nm vals ini thr ask c):VP V WR [vPr nm vals ini thr ask c] fun x=>∃ e k:Int,x = .tu [.i .i64 e,.i .i64 k]:=by
 obtain ⟨h1,h2,h3,h4,h5,hc⟩:=h
 rw [Ac C.c_z131.1 C.c_z131.2]
 obtain ⟨_,⟨e0,rfl⟩,qh⟩:=Db (A0g C nm h1 vals (ini.map eCl) (thr.map fun l=>[.ls l]) ask c hc)
 cases hc with
 | mk op th cn n kids g1 g2 =>
 simp only [List.cons_append,List.nil_append] at qh
 cases z0:decide (e0=0) with
 | false =>
  simp only [V9,CZ,go_sem,↓reduceIte,qh,z0]
  exact ⟨_,_,rfl⟩
 | true =>
 simp only [V9,CZ,go_sem,↓reduceIte,qh,z0]
 have nmsl:∀ k,k≤ini.length→((ini.take k).map (·.1)).length=k:=fun k hk=>by simp;omega
 refine Ai (by decide) ini.length (by omega) (I:=fun k F h=>h=[some (AL QY 1 (((ini.take k).map (·.1)).map eS))]∧A4.tmp F 1=(.fp [.s nm,.i .i64 vals,.ls (ini.map eCl),.ls (thr.map fun l=>[.ls l]),.i .i64 ask,.i .i64 op,.i .i64 th,.s cn,.i .i64 n,.ls kids] 0)∧A4.tmp F 5 = .sl 0 k 0 k) ?_ ?_ ?_ 0 _ _ (Nat.zero_le _) ?_ ?_
 ·rintro k F h hk p0 ⟨rfl,p1,p5⟩
  simp only [CZ,go_sem,↓reduceIte,p0,p1,p5]
 ·rintro k F h hk p0 ⟨rfl,p1,p5⟩
  have hlk:=nmsl k (by omega)
  have hcell:ini[k]? = some ini[k]:=List.getElem?_eq_getElem hk
  have htk:(ini.take (k+1)).map (·.1)=(ini.take k).map (·.1)++[ini[k].1]:=by rw [List.take_succ_eq_append_getElem hk,List.map_append];rfl
  obtain ⟨_,⟨bn,rfl⟩,qn⟩:=Db (L5 C ini[k].1 (h3 _ (List.getElem_mem hk)))
  have hin:=fun Q=>D9 C ((ini.take k).map (·.1)) ini[k].1 (by omega) (Q:=Q)
  rw [htk]
  clear htk
  generalize hL:(ini.take k).map (·.1)=L at *
  have b1:(k+1) * 16≤A7:=by unfold A7;omega
  have htake:L.take k=L:=by rw [List.take_of_length_le];omega
  cases bn with
  | false =>
   simp only [CZ,go_sem,↓reduceIte,p0,p1,p5,hcell,qn]
   try exact ⟨_,_,rfl⟩
  | true =>
   cases c1:L.any fun y=>decide (ini[k].1=y) with
   | true =>
    simp only [CZ,go_sem,↓reduceIte,p0,p1,p5,hcell,qn,hlk,hin,htake,c1]
    try exact ⟨_,_,rfl⟩
   | false =>
    cases c2:decide (ini[k].2 < 0)<;>cases c3:decide (vals≤ini[k].2) <;>
    simp only [CZ,go_sem,↓reduceIte,p0,p1,p5,hcell,qn,hlk,hin,htake,c1,c2,c3,b1]
    all_goals try exact ⟨_,_,rfl⟩
    exact congrArg (fun x=>[some x]) (GK (by omega))
 ·rintro F h ⟨rfl,p1,p5⟩
  rw [List.take_length]
  simp only [CZ,go_sem,↓reduceIte,p1,p5]
  generalize hL:ini.map (·.1)=L at *
  have hLl:L.length=ini.length:=by rw [← hL];simp
  have hLk:L.take L.length=L:=List.take_length
  rw [← hLl] at p5
  refine Ai (by decide) thr.length (by omega) (I:=fun k F h=>RG2 L k h∧A4.tmp F 1=(.fp [.s nm,.i .i64 vals,.ls (ini.map eCl),.ls (thr.map fun l=>[.ls l]),.i .i64 ask,.i .i64 op,.i .i64 th,.s cn,.i .i64 n,.ls kids] 0)∧A4.tmp F 5 = .sl 0 L.length 0 L.length∧A4.tmp F 9 = .sl 1 k 0 k∧isI (A4.tmp F 8)) ?_ ?_ ?_ 0 _ _ (Nat.zero_le _) ?_ ?_
  ·rintro k F h hk q0 ⟨hrg,q1,q5,q9,q8⟩
   simp only [CZ,go_sem,↓reduceIte,q0,q1,q5,q9]
   exact ⟨hrg,q8⟩
  ·rintro k F h hk q0 ⟨⟨rg,hrg,hr4,rfl⟩,q1,q5,q9,pt,q8⟩
   obtain ⟨m1,m2⟩:=h5 _ (List.getElem_mem hk)
   have hcell:thr[k]? = some thr[k]:=List.getElem?_eq_getElem hk
   obtain ⟨_,_,⟨⟨e1,rfl⟩,pt2,kn,n1,s,⟨lk,hlk,hkn⟩,rfl⟩,c1⟩:=DT (A3h C (locs:=L) (by omega) (vals:=vals) (RG:=some (AL BM 1 (rg.map J9))) thr[k] m1 m2 0 .nl 0 pt [] ⟨[],by simp,.inr ⟨rfl,rfl⟩⟩)
   have b1:(k+1) * 24≤A7:=by unfold A7;omega
   have hrl:(rg.map J9).length=k:=by simp [hrg]
   simp only [List.nil_append] at c1
   cases z1:decide (e1=0) with
   | false =>
    simp only [CZ,go_sem,↓reduceIte,q0,q1,q5,q9,q8,hcell,c1,z1]
    try exact ⟨_,_,rfl⟩
   | true =>
    rcases hkn with rfl | ⟨rfl,rfl⟩
    ·simp only [CZ,go_sem,↓reduceIte,q0,q1,q5,q9,q8,hcell,c1,z1,b1,hrg]
     have e:rg.map J9++[[VV.ls (List.map eS lk)]]=(rg++[lk]).map J9:=by simp
     refine ⟨.inr ?_,⟨rg++[lk],by simp [hrg],fun l hl=>?_,?_⟩,⟨_,rfl⟩⟩
     ·rw [e];exact Hr fun x=>rfl
     ·rcases List.mem_append.1 hl with h | h
      ·exact hr4 l h
      ·rw [List.mem_singleton.1 h];simpa using hlk
     ·rw [e];exact congrArg (fun x=>[LOo L,some x]) (GK (by omega))
    ·simp only [CZ,go_sem,↓reduceIte,q0,q1,q5,q9,q8,hcell,c1,z1,b1,hrg]
     have e:rg.map J9++[[VV.ls []]]=(rg++[([]:List ByteArray)]).map J9:=by simp
     refine ⟨.inr ?_,⟨rg++[([]:List ByteArray)],by simp [hrg],fun l hl=>?_,?_⟩,⟨_,rfl⟩⟩
     ·rw [e];exact Hr fun x=>rfl
     ·rcases List.mem_append.1 hl with h | h
      ·exact hr4 l h
      ·rw [List.mem_singleton.1 h];simpa using hlk
     ·rw [e];exact congrArg (fun x=>[LOo L,some x]) (GK (by omega))
  ·rintro F h ⟨⟨rg,hrg,hr4,rfl⟩,q1,q5,q9,pt,q8⟩
   have hrk:rg.take thr.length=rg:=by rw [List.take_of_length_le];omega
   obtain ⟨_,⟨d,rfl⟩,qd⟩:=Db (Qt C _ (GC.mk op th cn n kids g1 g2))
   obtain ⟨_,⟨ce,rfl⟩,qc⟩:=Db (A0e C vals L (by omega) rg (by omega) (fun l hl=>by have:=hr4 l hl;omega) _ (GC.mk op th cn n kids g1 g2))
   cases z1:decide (6 < d)<;>cases z2:decide (ce=0)<;>cases z3:decide (ask=1)<;>cases z4:decide (ask=2) <;>
   simp only [CZ,go_sem,↓reduceIte,q1,q5,q9,q8,qd,qc,z1,z2,z3,z4,hrg,hrk,hLk]
   all_goals try exact ⟨_,_,rfl⟩
  ·simp only [CZ,go_sem,↓reduceIte]
  ·simp only [CZ,go_sem,↓reduceIte,p1,p5]
   exact ⟨⟨[],rfl,by simp,rfl⟩,⟨_,rfl⟩⟩
 ·simp only [CZ,go_sem,↓reduceIte]
 ·simp only [CZ,go_sem,↓reduceIte]
end
structure PP where
 nm:ByteArray
 vals:Int
 ini:List (ByteArray×Int)
 thr:List (List (List VV))
 ask:Int
 op:Int
 th:Int
 cn:ByteArray
 n:Int
 kids:List (List VV)
abbrev eN0 (n:AK):List VV:=[.i .i64 n.thread,.i .i64 n.up,.i .i64 n.kind,.i .i64 n.loc,.i .i64 n.mode,.i .i64 n.val,.b n.rmw,.b n.fin,.nl]
abbrev eT0:Option VO:=some ⟨Mo,0,0,false,[[.i .i64 0,.nl,.nl,.nl]]⟩
abbrev eBd (p:PP) (locs:List ByteArray) (rg:List (List ByteArray)) (ns:List AK) (th:Int) (long:Bool):Option VO:=some ⟨Kr,0,0,false,[[.s p.nm,.i .i64 p.vals,.ls (p.ini.map eCl),.ls (p.thr.map fun l=>[.ls l]),.i .i64 p.ask,.i .i64 p.op,.i .i64 p.th,.s p.cn,.i .i64 p.n,.ls p.kids,.i .i64 p.vals,.sl 1 locs.length 0 locs.length,.sl 2 rg.length 0 rg.length,.sl 3 ns.length 0 ns.length,.i .i64 th,.b long]]⟩
abbrev eNs (ns:List AK):Option VO:=some (AL Cn 9 (ns.map eN))
abbrev eRg (rg:List (List ByteArray)):Option VO:=some (AL BM 1 (rg.map J9))
abbrev hB (p:PP) (locs:List ByteArray) (rg:List (List ByteArray)) (ns:List AK) (th:Int) (long:Bool) (r:VH):VH:=eT0::LOo locs::eRg rg::eNs ns::eBd p locs rg ns th long::r
theorem Lh {ty e:Nat} {rows:List (List VV)} (h:rows.length≠0):AL ty e rows = { ty:=ty,esz:=e,ver:=rows.length,nl:=false,rows:=rows }:=by
 unfold AL;rw [if_neg h]
theorem ES {ty e:Nat} {rows:List (List VV)} (h:rows.length≠0):(decide ((AL ty e rows).esz=e) && !(AL ty e rows).nl)=true:=by rw [Lh h];simp
section
variable {V:Am} (C:Au V) {Q:VV→Prop}
include C
theorem Nf (p:PP) (locs:List ByteArray) (rg:List (List ByteArray)) (ns:List AK) (th:Int) (long:Bool) (r:VH) (n:AK) (hr:n.regs=[]) (hn:ns.length < 64) {Q:VV→VH→Prop} :
  LS V RZ [.p 4 0 0 0,.ag (eN0 n)] (hB p locs rg ns th long r) Q↔Q (.i .i64 (ns.length:Nat)) (hB p locs rg (ns++[n]) th long r):=by
 refine Mp ?_
 rw [Eu C.h_z133]
 have h1:¬ (64:Int)≤ns.length:=by omega
 have h2:(ns.length+1) * 80≤A7:=by unfold A7;omega
 have w:IntKind.i64.wrap (((ns.length+1:Nat):Int) - 1)=((ns.length:Nat):Int):=by rw [AC (by omega) (by omega)];omega
 simp only [Va,Ny,go_sem,↓reduceIte,h1,h2,w]
 have er:VV.ls []=lI n.regs:=by rw [hr];rfl
 rw [er]
 have e:List.map eN ns++[eN n]=(ns++[n]).map eN:=by simp
 have e2:({ ty:=Cn,esz:=9,ver:=ns.length+1,nl:=false,rows:=List.map eN ns++[eN n] }:VO)=AL Cn 9 ((ns++[n]).map eN):=by
  rw [e];exact GK rfl
 have e3:(ns++[n]).length=ns.length+1:=by simp
 rw [e2]
 simp only [hB,eBd,e3]
theorem Dk (p:PP) (locs:List ByteArray) (rg:List (List ByteArray)) (ns:List AK) (th:Int) (long:Bool) (r:VH) (n:AK) (hn:64≤ns.length) {Q:VV→VH→Prop} :
  LS V RZ [.p 4 0 0 0,.ag (eN0 n)] (hB p locs rg ns th long r) Q↔Q (.i .i64 0) (hB p locs rg ns th true r):=by
 refine Mp ?_
 rw [Eu C.h_z133]
 have h1:(64:Int)≤ns.length:=by omega
 simp only [Va,Ny,go_sem,↓reduceIte,h1]
theorem Lj (p:PP) (locs:List ByteArray) (rg:List (List ByteArray)) (ns:List AK) (th:Nat) (hth:th < rg.length) (long:Bool) (r:VH) (regs:List Int) (e:List VV) (he:GE e) {k:Int} {b:Bool}
  (qe:∀ Q':VV→Prop,VP V S7 [.ag e,lS (rg.getD th []),lI regs,.i .i64 p.vals] Q'↔Q' (.tu [.i .i64 k,.b b])) {Q:VV→VH→Prop} :
  Hj V Xj [.p 4 0 0 0,.ag e,lI regs] (hB p locs rg ns th long r) Q↔Q (.i .i64 k) (hB p locs rg ns th long r):=by
 refine G8 ?_
 rw [CN C.h_z177]
 have ht:=KD hth
 have hx:=ES (ty:=BM) (e:=1) (rows:=rg.map J9) (by rw [List.length_map];omega)
 simp only [A1V,QJ,go_sem,↓reduceIte,he.len,he.take,he.frz,he.cell,ht,hth,hx,qe]
omit C in
@[go_sem] theorem Akk (xs:List Int) (i:Nat) (v:Int):(xs.map eI).set i [.i .i64 v]=(xs.set i v).map eI:=by rw [List.map_set]
theorem YF (p:PP) (locs:List ByteArray) (rg:List (List ByteArray)) (ns:List AK) (th:Nat) (hth:th < rg.length) (hrl:(rg.getD th []).length≤1000) (long:Bool) (r:VH) (regs:List Int) (hregs:regs.length=(rg.getD th []).length) (nm:ByteArray) (v:Int) (hin:nm∈rg.getD th []) :
  Hj V Xi [.p 4 0 0 0,lI regs,.s nm,.i .i64 v] (hB p locs rg ns th long r) fun x h=>∃ k,k < regs.length∧x=lI (regs.set k v)∧h=hB p locs rg ns th long r:=by
 rw [CN C.h_z176]
 have ht:=KD hth
 have hx:=ES (ty:=BM) (e:=1) (rows:=rg.map J9) (by rw [List.length_map];omega)
 have hq:=fun Q=>El C (rg.getD th []) nm hrl (Q:=Q)
 obtain ⟨k,e,hk,_⟩:=Jc (p:=fun y=>decide (nm=y)) (l:=rg.getD th []) (by rw [List.any_eq_true];exact ⟨nm,hin,by simp⟩)
 have hkr:k < regs.length:=by omega
 have h1:regs.length * 8≤A7:=by unfold A7;omega
 rw [e] at hq
 simp only [A1U,QI,go_sem,↓reduceIte,h1,ht,hth,hx,hq,hkr,List.getElem?_eq_getElem hkr,List.length_set,(show (regs.set k v).take regs.length=regs.set k v by rw [List.take_of_length_le];simp)]
 exact ⟨k,hkr,rfl⟩
theorem Aji (p:PP) (locs:List ByteArray) (rg:List (List ByteArray)) (ns:List AK) (n:AK) (th:Int) (long:Bool) (r:VH) (a:Nat) (ha:a=ns.length) (hn:ns.length < 64) (regs:List Int) (hr:regs.length≤1000) :
  LS V MP [.p 4 0 0 0,.i .i64 a,lI regs] (hB p locs rg (ns++[n]) th long r) fun x h=>x = .tu []∧∃ s,h=hB p locs rg (ns++[{ n with fin:=true,regs:=regs }]) th long (r++s):=by
 subst ha
 rw [Eu C.h_z174]
 have hx:=ES (ty:=Cn) (e:=9) (rows:=(ns++[n]).map eN) (by simp)
 have h1:regs.length * 8≤A7:=by unfold A7;omega
 have h2:ns.length < ns.length+1:=by omega
 have h3:(ns++[n])[ns.length]? = some n:=by simp
 have h4:∀ row,(List.map eN (ns++[n])).set ns.length row=ns.map eN++[row]:=fun row=>by
  rw [List.map_append,List.set_append_right _ _ (by simp)];simp
 have h5:∀ row:List VV,(ns.map eN++[row])[ns.length]? = some row:=fun row=>by
  rw [List.getElem?_append_right (by simp)];simp
 have h6:∀ row row':List VV,(ns.map eN++[row]).set ns.length row' = ns.map eN++[row']:=fun row row'=>by
  rw [List.set_append_right _ _ (by simp)];simp
 simp only [Rp,QH,go_sem,↓reduceIte,hx,h1,h2,h3,h4,h5,h6]
 refine ⟨[none],?_⟩
 have e1:=Lh (ty:=Cn) (e:=9) (rows:=(ns++[n]).map eN) (by simp)
 have e2:=Lh (ty:=Cn) (e:=9) (rows:=(ns++[{ n with fin:=true,regs:=regs }]).map eN) (by simp)
 simp only [hB,eNs,e1,e2]
 simp [eBd]
def fr:List (List (List VV))→VV
 | []=>.np
 | l::ls=>.fp [.ls l,fr ls] 0
omit C in
@[go_sem] theorem ApO (L:Nat) (x:List (List (List VV))):Ni L (fr x)=fr x:=by cases x<;>rfl
omit C in
@[go_sem] theorem Ao4 (L:Nat) (x:List (List (List VV))):bel L (fr x)=true:=by cases x<;>rfl
omit C in
@[go_sem] theorem Ao5 (h:VH) (d:Nat) (x:List (List (List VV))):frz h (d+1) (fr x)=some (fr x,[]):=by cases x<;>rfl
omit C in
@[go_sem] theorem Alr (x:List (List (List VV))):(fr x).cell=true:=by cases x<;>rfl
omit C in
@[go_sem] theorem AjH (x:List (List (List VV))):(fr x).cells=[fr x]:=by cases x<;>rfl
def K7:List (List (List VV))→List (List (List VV))
 | []::ls=>K7 ls
 | ls=>ls
noncomputable def wt:List (List (List VV))→Nat
 | []=>0
 | l::ls=>SizeOf.sizeOf l+wt ls
omit C in
theorem A0H:∀ fs,wt (K7 fs)≤wt fs
 | []=>Nat.le_refl _
 | []::ls=>by rw [K7];have:=A0H ls;simp only [wt];omega
 | (s::l)::ls=>Nat.le_refl _
omit C in
theorem TQ:∀ {fs:List (List (List VV))} {l},l∈K7 fs→l∈fs
 | []::ls,l,h=>by rw [K7] at h;exact List.mem_cons_of_mem _ (TQ h)
 | (s::l')::ls,l,h=>h
omit C in
theorem Rb:∀ fs,K7 fs=[]∨∃ s l fs',K7 fs=(s::l)::fs'
 | []=>.inl rfl
 | []::ls=>by rw [K7];exact Rb ls
 | (s::l)::ls=>.inr ⟨s,l,ls,rfl⟩
def A0P (p:PP) (locs:List ByteArray) (rg:List (List ByteArray)) (th:Nat) (ns:List AK) (n:AK) (r h:VH):Prop :=
 ∃ (ns':List AK) (long:Bool) (s:VH),h=hB p locs rg ns' th long (r++s)∧ns'.length≤64∧(long=false→Yq p.vals locs rg ns n ns')
omit C in
theorem A0P.more {p:PP} {locs:List ByteArray} {rg:List (List ByteArray)} {th:Nat} {ns:List AK} {n:AK} {r s h:VH} (k:A0P p locs rg th ns n (r++s) h):A0P p locs rg th ns n r h:=by
 obtain ⟨ns',long,s',h1,h2⟩:=k
 exact ⟨ns',long,s++s',by rw [h1,List.append_assoc],h2⟩
def RdI (p:PP) (locs:List ByteArray) (rg:List (List ByteArray)) (th:Nat) (ns:List AK) (n:AK) (lk:Nat) (mode:Int) (rm:Nat→Bool) (r:VH) (bx:Option VO) (x:Nat) (h:VH):Prop :=
 ∃ (nsv:List AK) (lg:Bool) (s:VH),h=hB p locs rg nsv th lg (r++bx::s)∧nsv.length≤64∧(lg=false→Yw p.vals locs rg ns n x lk mode rm nsv)
def AbN (locs names:List ByteArray) (fs:List (List (List VV))):Prop:=∀ l∈fs,l.length≤1000∧∀ s∈l,GS locs s∧RI names s
def Af6 (V:Am) (p:PP) (locs:List ByteArray) (rg:List (List ByteArray)) (th:Nat) (fs:List (List (List VV))):Prop :=
 ∀ (ns:List AK) (n:AK) (regs:List Int) (r:VH),n.fin=false→n.regs=[]→n.thread=th→ns.length < 64→regs.length=(rg.getD th []).length→(∀ v∈regs,0≤v∧v < p.vals) →
  LS V MM [.p 4 0 0 0,fr fs,.i .i64 (ns.length:Nat),lI regs] (hB p locs rg (ns++[n]) th false r) fun v h=>v = .tu []∧A0P p locs rg th ns n r h
set_option maxHeartbeats 8000000 in
theorem Afi (p:PP) (hv:2≤p.vals∧p.vals≤4) (locs:List ByteArray) (hlo:locs.length≤1000) (rg:List (List ByteArray)) (th:Nat) (hth:th < rg.length) (hrl:(rg.getD th []).length≤1000) :
  ∀ w fs,wt fs≤w→AbN locs (rg.getD th []) fs→Af6 V p locs rg th fs:=by
 intro w
 induction w using Nat.strongRecOn with
 | ind w ih =>
 intro fs hw hfs ns n regs r hf hr0 hnt hns hregs hrv
 rw [Eu C.h_z134]
 simp only [Ri]
 refine BW (J:=fun F h=>h=hB p locs rg (ns++[n]) th false r∧A4.tmp F 0 = .p 4 0 0 0∧A4.tmp F 2 = .i .i64 (ns.length:Nat)∧A4.tmp F 3=lI regs∧A4.tmp F 1=fr (K7 fs)) ?_ ?_
 ·rw [A0]
  refine AW (M:=List (List (List VV))) (I:=fun x F h=>h=hB p locs rg (ns++[n]) th false r∧A4.tmp F 0 = .p 4 0 0 0∧A4.tmp F 2 = .i .i64 (ns.length:Nat)∧A4.tmp F 3=lI regs∧A4.tmp F 1=fr x∧K7 x=K7 fs) (μ:=fun x=>x.length) ?_ fs _ _ ⟨rfl,?_,?_,?_,?_,rfl⟩
  ·rintro x F h ⟨rfl,p0,p2,p3,p1,hx⟩
   rcases x with _ | ⟨_ | ⟨s,l⟩,x⟩
   ·rw [fr] at p1
    simp only [QE,AH,go_sem,↓reduceIte,p0,p1,p2,p3,A0]
    rw [← hx];rfl
   ·rw [fr] at p1
    simp only [QE,AH,go_sem,↓reduceIte,p0,p1,p2,p3,A0]
    exact ⟨x,by omega,rfl,by rw [← hx];rfl⟩
   ·rw [fr] at p1
    have z:¬ ((l.length+1:Nat):Int)=0:=by omega
    simp only [QE,AH,go_sem,↓reduceIte,p0,p1,p2,p3,A0,z]
    rw [← hx];rfl
  all_goals simp only [AH,go_sem,↓reduceIte]
 rintro F h ⟨rfl,p0,p2,p3,p1⟩
 have hwd:=A0H fs
 have hfd:AbN locs (rg.getD th []) (K7 fs):=fun l hl=>hfs l (TQ hl)
 rcases Rb fs with e | ⟨s,l,fs',e⟩
 ·rw [e] at p1
  rw [fr] at p1
  obtain ⟨_,_,⟨rfl,s,rfl⟩,qe⟩:=DT (Aji C p locs rg ns n th false r ns.length rfl hns regs (by omega))
  simp only [AH,go_sem,↓reduceIte,p0,p1,p2,p3,qe]
  exact ⟨_,false,s,rfl,by simp;omega,fun _=>A9J hnt hth hregs hrv⟩
 ·rw [e] at p1 hwd hfd
  rw [fr] at p1
  obtain ⟨hl,hls⟩:=hfd _ List.mem_cons_self
  obtain ⟨hg,hri⟩:=hls s List.mem_cons_self
  cases hg with
  | mk kind mode reg loc args tn el g1 g2 g3 g4 g5 g6 g7 =>
  have hreg:H9 kind=true→reg∈rg.getD th []:=by cases hri with | mk _ _ _ _ _ _ _ q1 q2 q3=>exact q1
  have hrt:∀ s∈tn,RI (rg.getD th []) s:=by cases hri with | mk _ _ _ _ _ _ _ q1 q2 q3=>exact q2
  have hre:∀ s∈el,RI (rg.getD th []) s:=by cases hri with | mk _ _ _ _ _ _ _ q1 q2 q3=>exact q3
  have hrest:AbN locs (rg.getD th []) (l::fs'):=fun x hx=>by
   rcases List.mem_cons.1 hx with rfl | hx
   ·exact ⟨by simp at hl;omega,fun s hs=>hls s (List.mem_cons_of_mem _ hs)⟩
   ·exact hfd x (List.mem_cons_of_mem _ hx)
  have hwr:wt (l::fs') < w:=by simp only [wt,List.cons.sizeOf_spec] at hwd ⊢;omega
  have hok:=A74 (c:=locs) (l:=rS kind mode reg loc args tn el::l) fun k hk=>(hls k hk).1
  have u1:1≤l.length+1:=by omega
  have lq:=fun Q=>El C locs loc hlo (Q:=Q)
  have IH:=ih _ hwr (l::fs') (Nat.le_refl _) hrest
  obtain ⟨k1,k7⟩:=g7.k
  have setv:∀ k x,0≤x∧x < p.vals→∀ v∈regs.set k x,0≤v∧v < p.vals:=fun k x hx v hv=>by
   rcases List.mem_or_eq_of_mem_set hv with h | h
   ·exact hrv v h
   ·rw [h];exact hx
  let bx:Option VO:=some ⟨Mn,0,0,false,[rS kind mode reg loc args tn el]⟩
  refine BW (J:=fun F h=>h=hB p locs rg (ns++[n]) th false r∧A4.tmp F 0 = .p 4 0 0 0∧A4.tmp F 2 = .i .i64 (ns.length:Nat)∧A4.tmp F 3=lI regs∧A4.tmp F 1 = .fp [.ls (rS kind mode reg loc args tn el::l),fr fs'] 0) ?_ ?_
  ·simp only [AH,go_sem,↓reduceIte,p0,p1,p2,p3]
  rintro F h ⟨rfl,p0,p2,p3,p1⟩
  refine BW (J:=fun F h=>h=hB p locs rg (ns++[n]) th false r∧A4.tmp F 0 = .p 4 0 0 0∧A4.tmp F 2 = .i .i64 (ns.length:Nat)∧A4.tmp F 3=lI regs∧A4.tmp F 1 = .fp [.ls (rS kind mode reg loc args tn el::l),fr fs'] 0) ?_ ?_
  ·simp only [AH,go_sem,↓reduceIte,p0,p1,p2,p3]
  rintro F h ⟨rfl,p0,p2,p3,p1⟩
  refine BW (J:=fun F h=>h=hB p locs rg (ns++[n]) th false (r++[bx])∧A4.tmp F 0 = .p 4 0 0 0∧A4.tmp F 2 = .i .i64 (ns.length:Nat)∧A4.tmp F 3=lI regs∧A4.tmp F 1 = .fp [.ls (rS kind mode reg loc args tn el::l),fr fs'] 0∧A4.tmp F 8 = .p (r.length+1+1+1+1+1) 0 0 0) ?_ ?_
  ·simp only [AH,go_sem,↓reduceIte,p0,p1,p2,p3,bx]
  rintro F h ⟨rfl,p0,p2,p3,p1,p8⟩
  refine BW (J:=fun F h=>h=hB p locs rg (ns++[n]) th false (r++[bx])∧A4.tmp F 0 = .p 4 0 0 0∧A4.tmp F 2 = .i .i64 (ns.length:Nat)∧A4.tmp F 3=lI regs∧A4.tmp F 8 = .p (r.length+1+1+1+1+1) 0 0 0∧A4.tmp F 9=fr (l::fs')) ?_ ?_
  ·simp only [AH,go_sem,↓reduceIte,p0,p1,p2,p3,p1,p8,bx,hok,u1,fr,Nat.add_sub_cancel]
  rintro F h ⟨rfl,p0,p2,p3,p8,p9⟩
  refine BW (J:=fun F h=>h=hB p locs rg (ns++[n]) th false (r++[bx])∧A4.tmp F 0 = .p 4 0 0 0∧A4.tmp F 2 = .i .i64 (ns.length:Nat)∧A4.tmp F 3=lI regs∧A4.tmp F 8 = .p (r.length+1+1+1+1+1) 0 0 0∧A4.tmp F 9=fr (l::fs')∧A4.tmp F 10 = .i .i64 (D3 (fun y=>decide (loc=y)) locs)) ?_ ?_
  ·simp only [AH,go_sem,↓reduceIte,p0,p2,p3,p8,p9,bx,lq]
  rintro F h ⟨rfl,p0,p2,p3,p8,p9,p10⟩
  by_cases c1:kind=1
  ·subst c1
   have ha:1≤args.length:=g7.one (by omega)
   obtain ⟨a0,ar,rfl⟩:∃ a0 ar,args=a0::ar:=by cases args with | nil=>simp at ha | cons a0 ar=>exact ⟨a0,ar,rfl⟩
   have ga:=g2 a0 List.mem_cons_self
   obtain ⟨_,⟨x,bb,rfl,hx⟩,qe⟩:=Db (E5 C (rg.getD th []) regs hrl hregs p.vals hv.1 hv.2 a0 ga)
   have qw:=fun Q=>Lj C p locs rg (ns++[n]) th hth false (r++[bx]) regs a0 ga qe (Q:=Q)
   obtain ⟨_,_,⟨ks,hks,rfl,rfl⟩,qs⟩:=R0 (YF C p locs rg (ns++[n]) th hth hrl false (r++[bx]) regs hregs reg x (hreg rfl))
   obtain ⟨_,_,⟨rfl,hres⟩,qk⟩:=DT (IH ns n (regs.set ks x) (r++[bx]) hf hr0 hnt hns (by simp [hregs]) (setv ks x hx))
   simp only [AH,go_sem,↓reduceIte,p0,p2,p3,p8,p9,p10,A0,ga.len,ga.take,ga.frz,qw,qs,qk,bx,Yn,CG]
   exact hres.more
  have okd:∀ (t:List (List VV)),t.length≤1000→(∀ s∈t,GS locs s)→(∀ s∈t,RI (rg.getD th []) s)→AbN locs (rg.getD th []) (t::l::fs'):=fun t h1 h2 h3 x hx=>by
   rcases List.mem_cons.1 hx with rfl | hx
   ·exact ⟨h1,fun s hs=>⟨h2 s hs,h3 s hs⟩⟩
   ·exact hrest x hx
  by_cases c7:kind=7
  ·subst c7
   have ha:1≤args.length:=g7.one (by omega)
   obtain ⟨a0,ar,rfl⟩:∃ a0 ar,args=a0::ar:=by cases args with | nil=>simp at ha | cons a0 ar=>exact ⟨a0,ar,rfl⟩
   have ga:=g2 a0 List.mem_cons_self
   obtain ⟨_,⟨x,bb,rfl,hx⟩,qe⟩:=Db (E5 C (rg.getD th []) regs hrl hregs p.vals hv.1 hv.2 a0 ga)
   have qw:=fun Q=>Lj C p locs rg (ns++[n]) th hth false (r++[bx]) regs a0 ga qe (Q:=Q)
   have w1:wt (tn::l::fs') < w:=by simp only [wt,rS,List.cons.sizeOf_spec,VV.ls.sizeOf_spec] at hwd ⊢;omega
   have w2:wt (el::l::fs') < w:=by simp only [wt,rS,List.cons.sizeOf_spec,VV.ls.sizeOf_spec] at hwd ⊢;omega
   obtain ⟨_,_,⟨rfl,hr1⟩,qk1⟩:=DT (ih _ w1 _ (Nat.le_refl _) (okd tn g3 g5 hrt) ns n regs (r++[bx]) hf hr0 hnt hns hregs hrv)
   obtain ⟨_,_,⟨rfl,hr2⟩,qk2⟩:=DT (ih _ w2 _ (Nat.le_refl _) (okd el g4 g6 hre) ns n regs (r++[bx]) hf hr0 hnt hns hregs hrv)
   rw [fr] at qk1 qk2
   cases c0:decide (x=0)
   ·simp only [AH,go_sem,↓reduceIte,p0,p2,p3,p8,p9,p10,A0,ga.len,ga.take,ga.frz,qw,qk1,bx,c0]
    exact hr1.more
   ·simp only [AH,go_sem,↓reduceIte,p0,p2,p3,p8,p9,p10,A0,ga.len,ga.take,ga.frz,qw,qk2,bx,c0]
    exact hr2.more
  have hlen:(ns++[n]).length=ns.length+1:=by simp
  have long:∀ h s,h=hB p locs rg (ns++[n]) th true (r++s)→A0P p locs rg th ns n r h:=fun h s e=>⟨_,true,s,e,by simp;omega,fun h=>by cases h⟩
  have grow:∀ x:AK,x.up=ns.length→x.thread=th→Jy locs.length p.vals n x=true→∀ h,A0P p locs rg th (ns++[n]) x (r++[bx]) h→A0P p locs rg th ns n r h:=by
   rintro x h1 h2 h3 h ⟨ns',long,s,rfl,h5,h6⟩
   exact ⟨ns',long,[bx]++s,by rw [List.append_assoc],h5,fun e=>Mw hnt hth hf hr0 h1 h2 h3 (h6 e)⟩
  by_cases c6:kind=6
  ·subst c6
   have hm:=g7.mf rfl
   let x:AK:=⟨th,ns.length,4,0,mode,0,false,false,[]⟩
   rcases Nat.lt_or_ge (ns.length+1) 64 with h64 | h64
   ·have qp:=fun Q=>Nf C p locs rg (ns++[n]) th false (r++[bx]) x rfl (by omega) (Q:=Q)
    obtain ⟨_,_,⟨rfl,hr1⟩,qk⟩:=DT (IH (ns++[n]) x regs (r++[bx]) rfl rfl rfl (by omega) hregs hrv)
    simp only [x,hlen,List.append_assoc,List.cons_append,List.nil_append] at qk
    simp only [AH,go_sem,↓reduceIte,p0,p2,p3,p8,p9,p10,A0,qp,qk,bx,x,hlen]
    exact grow x rfl rfl (by simp [Jy,x,hm.1,hm.2]) _ hr1
   ·have qp:=fun Q=>Dk C p locs rg (ns++[n]) th false (r++[bx]) x (by omega) (Q:=Q)
    simp only [AH,go_sem,↓reduceIte,p0,p2,p3,p8,p9,p10,A0,qp,bx,x]
    exact long _ _ rfl
  have hloc:kind=2∨kind=3∨kind=4∨kind=5:=by omega
  obtain ⟨lk,elk,hlk,_⟩:=Jc (p:=fun y=>decide (loc=y)) (l:=locs) (by rw [List.any_eq_true];exact ⟨loc,g7.loc hloc,by simp⟩)
  rw [elk] at p10
  by_cases c3:kind=3
  ·subst c3
   have hm:=g7.ms rfl
   have ha:1≤args.length:=g7.one (by omega)
   obtain ⟨a0,ar,rfl⟩:∃ a0 ar,args=a0::ar:=by cases args with | nil=>simp at ha | cons a0 ar=>exact ⟨a0,ar,rfl⟩
   have ga:=g2 a0 List.mem_cons_self
   obtain ⟨_,⟨y,bb,rfl,hy⟩,qe⟩:=Db (E5 C (rg.getD th []) regs hrl hregs p.vals hv.1 hv.2 a0 ga)
   have qw:=fun Q=>Lj C p locs rg (ns++[n]) th hth false (r++[bx]) regs a0 ga qe (Q:=Q)
   let x:AK:=⟨th,ns.length,3,lk,mode,y,false,false,[]⟩
   rcases Nat.lt_or_ge (ns.length+1) 64 with h64 | h64
   ·have qp:=fun Q=>Nf C p locs rg (ns++[n]) th false (r++[bx]) x rfl (by omega) (Q:=Q)
    obtain ⟨_,_,⟨rfl,hr1⟩,qk⟩:=DT (IH (ns++[n]) x regs (r++[bx]) rfl rfl rfl (by omega) hregs hrv)
    simp only [x,hlen,List.append_assoc,List.cons_append,List.nil_append] at qk
    simp only [AH,go_sem,↓reduceIte,p0,p2,p3,p8,p9,p10,A0,ga.len,ga.take,ga.frz,qw,qp,qk,bx,x,hlen,Yn,CG]
    exact grow x rfl rfl (by rcases hm with hm | hm | hm<;>simp [Jy,x,hlk,hy.1,hy.2,hm]) _ hr1
   ·have qp:=fun Q=>Dk C p locs rg (ns++[n]) th false (r++[bx]) x (by omega) (Q:=Q)
    simp only [AH,go_sem,↓reduceIte,p0,p2,p3,p8,p9,p10,A0,ga.len,ga.take,ga.frz,qw,qp,bx,x,Yn,CG]
    exact long _ _ rfl
  have hk245:kind=2∨kind=4∨kind=5:=by omega
  obtain ⟨N,hN⟩:=Int.eq_ofNat_of_zero_le (show 0≤p.vals by omega)
  by_cases d2:kind=2
  ·subst d2
   have hmode:(mode=0∨mode=1∨mode=4)∨(0≤mode∧mode≤4∧∃ v,v < N∧(fun _=>false) v=true):=.inl (g7.ml rfl)
   simp only [AH,go_sem,↓reduceIte,p0,p2,p3,p8,p9,p10,bx,A0]
   unfold VL
   rw [A0]
   refine AW (M:=Nat) (I:=fun x F h=>x≤N∧RdI p locs rg th ns n lk mode (fun _=>false) r bx x h∧A4.tmp F 0 = .p 4 0 0 0∧A4.tmp F 2 = .i .i64 (ns.length:Nat)∧A4.tmp F 3=lI regs∧A4.tmp F 8 = .p (r.length+1+1+1+1+1) 0 0 0∧A4.tmp F 9=fr (l::fs')∧A4.tmp F 10 = .i .i64 lk∧A4.tmp F 13 = .i .i64 x) (μ:=fun x=>N - x) ?_ 0 _ _ ⟨Nat.zero_le _,⟨ns++[n],false,[],rfl,by simp;omega,fun _=>MX⟩,?_,?_,?_,?_,?_,?_,?_⟩
   ·rintro x F h ⟨hxN,⟨nsv,lg,s,rfl,h64,hsd⟩,p0,p2,p3,p8,p9,p10,p13⟩
    cases lg with
    | true =>
     cases c:decide ((x:Int) < p.vals) <;>
     simp only [CM,AH,go_sem,↓reduceIte,p0,p2,p3,p8,p9,p10,p13,c,A0] <;>
     exact ⟨nsv,true,_,rfl,h64,fun h=>by cases h⟩
    | false =>
    by_cases hxl:x < N
    ·have c:(x:Int) < p.vals:=by omega
     have w1:=Gp (show x < 9223372036854775807 by omega)
     have bd:decide (r.length+1+1+1+1+1 < r.length+(s.length+1)+1+1+1+1+1)=true:=by rw [decide_eq_true_iff];omega
     let xr:AK:=⟨th,ns.length,2,lk,mode,x,false,false,[]⟩
     have hx0:(0:Int)≤(x:Int)∧(x:Int) < p.vals:=⟨by omega,c⟩
     rcases Nat.lt_or_ge nsv.length 64 with q64 | q64
     ·have qp:=fun Q=>Nf C p locs rg nsv th false (r++bx::s) xr rfl q64 (Q:=Q)
      obtain ⟨_,_,⟨ks,hks,rfl,rfl⟩,qs⟩:=R0 (YF C p locs rg (nsv++[xr]) th hth hrl false (r++bx::s) regs hregs reg x (hreg rfl))
      obtain ⟨_,_,⟨rfl,ns',lg,s',rfl,h64',hg⟩,qk⟩:=DT (IH nsv xr (regs.set ks x) (r++bx::s) rfl rfl rfl q64 (by simp [hregs]) (setv ks x hx0))
      simp only [CM,AH,go_sem,↓reduceIte,p0,p2,p3,p8,p9,p10,p13,c,A0,qp,qs,qk,xr,bx,w1,bd]
      exact ⟨x+1,by omega,by omega,⟨ns',lg,s,rfl,h64',fun e=>K0 (hsd rfl) rfl hnt.symm rfl rfl rfl rfl rfl (hg e) (fun h=>by simp_all)⟩,rfl⟩
     ·have qp:=fun Q=>Dk C p locs rg nsv th false (r++bx::s) xr q64 (Q:=Q)
      simp only [CM,AH,go_sem,↓reduceIte,p0,p2,p3,p8,p9,p10,p13,c,A0,qp,xr,bx]
      exact ⟨_,true,_,rfl,h64,fun h=>by cases h⟩
    ·have hxe:x=N:=by omega
     subst hxe
     have c:¬ (x:Int) < p.vals:=by omega
     simp only [CM,AH,go_sem,↓reduceIte,p0,p2,p3,p8,p9,p10,p13,c,A0]
     refine ⟨nsv,false,_,rfl,h64,fun _=>?_⟩
     have:=hsd rfl
     rw [hN] at this ⊢
     exact Pk hnt hth hf hr0 (by omega) ⟨by omega,by omega⟩ hmode this
   all_goals simp only [AH,go_sem,↓reduceIte,p0,p2,p3,p8,p9,p10]
  by_cases d4:kind=4
  ·subst d4
   have ha:1≤args.length:=g7.one (by omega)
   obtain ⟨a0,ar,rfl⟩:∃ a0 ar,args=a0::ar:=by cases args with | nil=>simp at ha | cons a0 ar=>exact ⟨a0,ar,rfl⟩
   have ga0:=g2 a0 (by simp)
   obtain ⟨_,⟨y0,bb0,rfl,hy0⟩,qe0⟩:=Db (E5 C (rg.getD th []) regs hrl hregs p.vals hv.1 hv.2 a0 ga0)
   have hmode:(mode=0∨mode=1∨mode=4)∨(0≤mode∧mode≤4∧∃ v,v < N∧(fun _=>true) v=true):=.inr ⟨(g7.ma (by omega)).1,(g7.ma (by omega)).2,0,by omega,rfl⟩
   obtain ⟨m0,m4⟩:=g7.ma (by omega)
   simp only [AH,go_sem,↓reduceIte,p0,p2,p3,p8,p9,p10,bx,A0]
   unfold VL
   rw [A0]
   refine AW (M:=Nat) (I:=fun x F h=>x≤N∧RdI p locs rg th ns n lk mode (fun _=>true) r bx x h∧A4.tmp F 0 = .p 4 0 0 0∧A4.tmp F 2 = .i .i64 (ns.length:Nat)∧A4.tmp F 3=lI regs∧A4.tmp F 8 = .p (r.length+1+1+1+1+1) 0 0 0∧A4.tmp F 9=fr (l::fs')∧A4.tmp F 10 = .i .i64 lk∧A4.tmp F 13 = .i .i64 x) (μ:=fun x=>N - x) ?_ 0 _ _ ⟨Nat.zero_le _,⟨ns++[n],false,[],rfl,by simp;omega,fun _=>MX⟩,?_,?_,?_,?_,?_,?_,?_⟩
   ·rintro x F h ⟨hxN,⟨nsv,lg,s,rfl,h64,hsd⟩,p0,p2,p3,p8,p9,p10,p13⟩
    cases lg with
    | true =>
     cases c:decide ((x:Int) < p.vals) <;>
     simp only [CM,AH,go_sem,↓reduceIte,p0,p2,p3,p8,p9,p10,p13,c,A0] <;>
     exact ⟨nsv,true,_,rfl,h64,fun h=>by cases h⟩
    | false =>
    by_cases hxl:x < N
    ·have c:(x:Int) < p.vals:=by omega
     have w1:=Gp (show x < 9223372036854775807 by omega)
     have bd:decide (r.length+1+1+1+1+1 < r.length+(s.length+1)+1+1+1+1+1)=true:=by rw [decide_eq_true_iff];omega
     let xr:AK:=⟨th,ns.length,2,lk,mode,x,false,false,[]⟩
     have hx0:(0:Int)≤(x:Int)∧(x:Int) < p.vals:=⟨by omega,c⟩
     rcases Nat.lt_or_ge nsv.length 64 with q64 | q64
     ·have qp:=fun Q=>Nf C p locs rg nsv th false (r++bx::s) xr rfl q64 (Q:=Q)
      have qw0:=fun Q=>Lj C p locs rg (nsv++[xr]) th hth false (r++bx::s) regs a0 ga0 qe0 (Q:=Q)
      have wz:IntKind.i64.wrap ((x:Int)+y0)=(x:Int)+y0:=AC (by omega) (by omega)
      have hz:0≤((x:Int)+y0) % p.vals∧((x:Int)+y0) % p.vals < p.vals:=⟨Int.emod_nonneg _ (by omega),Int.emod_lt_of_pos _ (by omega)⟩
      have q5:=fun v Q=>Un C v p.vals (by omega) (by omega) (Q:=Q)
      simp only [xr] at qw0
      let yw:AK:=⟨th,nsv.length,3,lk,mode,((x:Int)+y0) % p.vals,true,false,[]⟩
      have hl1:(nsv++[xr]).length=nsv.length+1:=by simp
      rcases Nat.lt_or_ge (nsv.length+1) 64 with r64 | r64
      ·have qp2:=fun Q=>Nf C p locs rg (nsv++[xr]) th false (r++bx::s) yw rfl (by omega) (Q:=Q)
       obtain ⟨_,_,⟨ks,hks,rfl,rfl⟩,qs⟩:=R0 (YF C p locs rg ((nsv++[xr])++[yw]) th hth hrl false (r++bx::s) regs hregs reg x (hreg rfl))
       obtain ⟨_,_,⟨rfl,ns',lg,s',rfl,h64',hg⟩,qk⟩:=DT (IH (nsv++[xr]) yw (regs.set ks x) (r++bx::s) rfl rfl rfl (by omega) (by simp [hregs]) (setv ks x hx0))
       simp only [xr,yw,hl1,List.append_assoc,List.cons_append,List.nil_append] at qp2 qs qk
       simp only [CM,AH,go_sem,↓reduceIte,p0,p2,p3,p8,p9,p10,p13,c,A0,qp,qp2,qs,qk,xr,yw,bx,w1,bd,ga0.len,ga0.take,ga0.frz,qw0,wz,q5,hz.1,Yn,CG]
       have ga:Jy locs.length p.vals xr yw=true:=by simp [Jy,xr,yw,hlk,hz.1,hz.2,m0,m4]
       exact ⟨x+1,by omega,by omega,⟨ns',lg,s,rfl,h64',fun e=>K0 (hsd rfl) rfl hnt.symm rfl rfl rfl rfl rfl (Mw (x:=yw) rfl hth rfl rfl rfl rfl ga (hg e)) (fun h=>Qi rfl rfl (hg e))⟩,rfl⟩
      ·have qp2:=fun Q=>Dk C p locs rg (nsv++[xr]) th false (r++bx::s) yw (by omega) (Q:=Q)
       simp only [xr,yw,hl1,List.append_assoc,List.cons_append,List.nil_append] at qp2
       simp only [CM,AH,go_sem,↓reduceIte,p0,p2,p3,p8,p9,p10,p13,c,A0,qp,qp2,xr,yw,bx,w1,bd,ga0.len,ga0.take,ga0.frz,qw0,wz,q5,hz.1,Yn,CG]
       exact ⟨_,true,_,rfl,by simp;omega,fun h=>by cases h⟩
     ·have qp:=fun Q=>Dk C p locs rg nsv th false (r++bx::s) xr q64 (Q:=Q)
      simp only [CM,AH,go_sem,↓reduceIte,p0,p2,p3,p8,p9,p10,p13,c,A0,qp,xr,bx]
      exact ⟨_,true,_,rfl,h64,fun h=>by cases h⟩
    ·have hxe:x=N:=by omega
     subst hxe
     have c:¬ (x:Int) < p.vals:=by omega
     simp only [CM,AH,go_sem,↓reduceIte,p0,p2,p3,p8,p9,p10,p13,c,A0]
     refine ⟨nsv,false,_,rfl,h64,fun _=>?_⟩
     have:=hsd rfl
     rw [hN] at this ⊢
     exact Pk hnt hth hf hr0 (by omega) ⟨by omega,by omega⟩ hmode this
   all_goals simp only [AH,go_sem,↓reduceIte,p0,p2,p3,p8,p9,p10]
  by_cases d5:kind=5
  ·subst d5
   have ha:2≤args.length:=g7.two rfl
   obtain ⟨a0,a1,ar,rfl⟩:∃ a0 a1 ar,args=a0::a1::ar:=by
    rcases args with _ | ⟨a0,_ | ⟨a1,ar⟩⟩
    ·simp at ha
    ·simp at ha
    ·exact ⟨a0,a1,ar,rfl⟩
   have ga0:=g2 a0 (by simp)
   obtain ⟨_,⟨y0,bb0,rfl,hy0⟩,qe0⟩:=Db (E5 C (rg.getD th []) regs hrl hregs p.vals hv.1 hv.2 a0 ga0)
   have ga1:=g2 a1 (by simp)
   obtain ⟨_,⟨y1,bb1,rfl,hy1⟩,qe1⟩:=Db (E5 C (rg.getD th []) regs hrl hregs p.vals hv.1 hv.2 a1 ga1)
   have hmode:(mode=0∨mode=1∨mode=4)∨(0≤mode∧mode≤4∧∃ v,v < N∧(fun j=>decide ((j:Int)=y0)) v=true):=.inr ⟨(g7.ma (by omega)).1,(g7.ma (by omega)).2,y0.toNat,by omega,by simp;omega⟩
   obtain ⟨m0,m4⟩:=g7.ma (by omega)
   simp only [AH,go_sem,↓reduceIte,p0,p2,p3,p8,p9,p10,bx,A0]
   unfold VL
   rw [A0]
   refine AW (M:=Nat) (I:=fun x F h=>x≤N∧RdI p locs rg th ns n lk mode (fun j=>decide ((j:Int)=y0)) r bx x h∧A4.tmp F 0 = .p 4 0 0 0∧A4.tmp F 2 = .i .i64 (ns.length:Nat)∧A4.tmp F 3=lI regs∧A4.tmp F 8 = .p (r.length+1+1+1+1+1) 0 0 0∧A4.tmp F 9=fr (l::fs')∧A4.tmp F 10 = .i .i64 lk∧A4.tmp F 13 = .i .i64 x) (μ:=fun x=>N - x) ?_ 0 _ _ ⟨Nat.zero_le _,⟨ns++[n],false,[],rfl,by simp;omega,fun _=>MX⟩,?_,?_,?_,?_,?_,?_,?_⟩
   ·rintro x F h ⟨hxN,⟨nsv,lg,s,rfl,h64,hsd⟩,p0,p2,p3,p8,p9,p10,p13⟩
    cases lg with
    | true =>
     cases c:decide ((x:Int) < p.vals) <;>
     simp only [CM,AH,go_sem,↓reduceIte,p0,p2,p3,p8,p9,p10,p13,c,A0] <;>
     exact ⟨nsv,true,_,rfl,h64,fun h=>by cases h⟩
    | false =>
    by_cases hxl:x < N
    ·have c:(x:Int) < p.vals:=by omega
     have w1:=Gp (show x < 9223372036854775807 by omega)
     have bd:decide (r.length+1+1+1+1+1 < r.length+(s.length+1)+1+1+1+1+1)=true:=by rw [decide_eq_true_iff];omega
     let xr:AK:=⟨th,ns.length,2,lk,mode,x,false,false,[]⟩
     have hx0:(0:Int)≤(x:Int)∧(x:Int) < p.vals:=⟨by omega,c⟩
     rcases Nat.lt_or_ge nsv.length 64 with q64 | q64
     ·have qp:=fun Q=>Nf C p locs rg nsv th false (r++bx::s) xr rfl q64 (Q:=Q)
      have qw0:=fun Q=>Lj C p locs rg (nsv++[xr]) th hth false (r++bx::s) regs a0 ga0 qe0 (Q:=Q)
      have qw1:=fun Q=>Lj C p locs rg (nsv++[xr]) th hth false (r++bx::s) regs a1 ga1 qe1 (Q:=Q)
      simp only [xr] at qw0 qw1
      by_cases d0:(x:Int)=y0
      ·subst d0
       let yw:AK:=⟨th,nsv.length,3,lk,mode,y1,true,false,[]⟩
       have hl1:(nsv++[xr]).length=nsv.length+1:=by simp
       rcases Nat.lt_or_ge (nsv.length+1) 64 with r64 | r64
       ·have qp2:=fun Q=>Nf C p locs rg (nsv++[xr]) th false (r++bx::s) yw rfl (by omega) (Q:=Q)
        obtain ⟨_,_,⟨ks,hks,rfl,rfl⟩,qs⟩:=R0 (YF C p locs rg ((nsv++[xr])++[yw]) th hth hrl false (r++bx::s) regs hregs reg x (hreg rfl))
        obtain ⟨_,_,⟨rfl,ns',lg,s',rfl,h64',hg⟩,qk⟩:=DT (IH (nsv++[xr]) yw (regs.set ks x) (r++bx::s) rfl rfl rfl (by omega) (by simp [hregs]) (setv ks x hx0))
        simp only [xr,yw,hl1,List.append_assoc,List.cons_append,List.nil_append] at qp2 qs qk
        simp only [CM,AH,go_sem,↓reduceIte,p0,p2,p3,p8,p9,p10,p13,c,A0,qp,qp2,qs,qk,xr,yw,bx,w1,bd,ga0.len,ga0.take,ga0.frz,ga1.len,ga1.take,ga1.frz,qw0,qw1,hy1.1,Yn,CG]
        have ga:Jy locs.length p.vals xr yw=true:=by simp [Jy,xr,yw,hlk,hy1.1,hy1.2,m0,m4]
        exact ⟨x+1,by omega,by omega,⟨ns',lg,s,rfl,h64',fun e=>K0 (hsd rfl) rfl hnt.symm rfl rfl rfl rfl rfl (Mw (x:=yw) rfl hth rfl rfl rfl rfl ga (hg e)) (fun h=>Qi rfl rfl (hg e))⟩,rfl⟩
       ·have qp2:=fun Q=>Dk C p locs rg (nsv++[xr]) th false (r++bx::s) yw (by omega) (Q:=Q)
        simp only [xr,yw,hl1,List.append_assoc,List.cons_append,List.nil_append] at qp2
        simp only [CM,AH,go_sem,↓reduceIte,p0,p2,p3,p8,p9,p10,p13,c,A0,qp,qp2,xr,yw,bx,w1,bd,ga0.len,ga0.take,ga0.frz,ga1.len,ga1.take,ga1.frz,qw0,qw1,hy1.1,Yn,CG]
        exact ⟨_,true,_,rfl,by simp;omega,fun h=>by cases h⟩
      ·have d0':decide ((x:Int)=y0)=false:=by simp [d0]
       obtain ⟨_,_,⟨ks,hks,rfl,rfl⟩,qs⟩:=R0 (YF C p locs rg (nsv++[xr]) th hth hrl false (r++bx::s) regs hregs reg x (hreg rfl))
       obtain ⟨_,_,⟨rfl,ns',lg,s',rfl,h64',hg⟩,qk⟩:=DT (IH nsv xr (regs.set ks x) (r++bx::s) rfl rfl rfl q64 (by simp [hregs]) (setv ks x hx0))
       simp only [CM,AH,go_sem,↓reduceIte,p0,p2,p3,p8,p9,p10,p13,c,A0,qp,qs,qk,xr,bx,w1,bd,ga0.len,ga0.take,ga0.frz,qw0,d0,Yn,CG]
       exact ⟨x+1,by omega,by omega,⟨ns',lg,s,rfl,h64',fun e=>K0 (hsd rfl) rfl hnt.symm rfl rfl rfl rfl rfl (hg e) (fun h=>by simp_all)⟩,rfl⟩
     ·have qp:=fun Q=>Dk C p locs rg nsv th false (r++bx::s) xr q64 (Q:=Q)
      simp only [CM,AH,go_sem,↓reduceIte,p0,p2,p3,p8,p9,p10,p13,c,A0,qp,xr,bx]
      exact ⟨_,true,_,rfl,h64,fun h=>by cases h⟩
    ·have hxe:x=N:=by omega
     subst hxe
     have c:¬ (x:Int) < p.vals:=by omega
     simp only [CM,AH,go_sem,↓reduceIte,p0,p2,p3,p8,p9,p10,p13,c,A0]
     refine ⟨nsv,false,_,rfl,h64,fun _=>?_⟩
     have:=hsd rfl
     rw [hN] at this ⊢
     exact Pk hnt hth hf hr0 (by omega) ⟨by omega,by omega⟩ hmode this
   all_goals simp only [AH,go_sem,↓reduceIte,p0,p2,p3,p8,p9,p10]
  omega
end
structure GP2 (p:PP):Prop where
 gp:GP p.nm p.vals p.ini p.thr p.ask [.i .i64 p.op,.i .i64 p.th,.s p.cn,.i .i64 p.n,.ls p.kids]
 v2:2≤p.vals
 v4:p.vals≤4
 i4:p.ini.length≤4
 nd:(p.ini.map (·.1)).Nodup
 iv:∀ x∈p.ini,0≤x.2∧x.2 < p.vals
 t1:1≤p.thr.length
 t4:p.thr.length≤4
abbrev PP.v (p:PP):VV:=.ag [.s p.nm,.i .i64 p.vals,.ls (p.ini.map eCl),.ls (p.thr.map fun l=>[.ls l]),.i .i64 p.ask,.i .i64 p.op,.i .i64 p.th,.s p.cn,.i .i64 p.n,.ls p.kids]
abbrev PP.f (p:PP):VV:=.fp [.s p.nm,.i .i64 p.vals,.ls (p.ini.map eCl),.ls (p.thr.map fun l=>[.ls l]),.i .i64 p.ask,.i .i64 p.op,.i .i64 p.th,.s p.cn,.i .i64 p.n,.ls p.kids] 0
def AbQ (p:PP) (k:Nat) (rg:List (List ByteArray)):Prop:=rg.length=k∧∀ (j:Nat) (hj:j < p.thr.length),j < k→((rg.getD j []).Nodup∧(∀ n∈rg.getD j [],n∈N4)∧∀ r∈p.thr[j],RI (rg.getD j []) r)
def HBr (p:PP) (k:Nat) (h:VH):Prop:=∃ rg,AbQ p k rg∧h=hB p (p.ini.map (·.1)) rg [] 0 false []
def HBt (p:PP) (rg:List (List ByteArray)) (k:Nat) (h:VH):Prop:=∃ (ns:List AK) (th:Int) (long:Bool) ,h=hB p (p.ini.map (·.1)) rg ns th long []∧ns.length≤64∧(long=false→Thr p.vals (p.ini.map (·.1)) rg k ns)
theorem AbQ.step {p:PP} {k:Nat} {rg:List (List ByteArray)} (h:AbQ p k rg) (hk:k < p.thr.length) {o:List ByteArray} (h1:o.Nodup) (h2:∀ n∈o,n∈N4) (h3:∀ r∈p.thr[k],RI o r):AbQ p (k+1) (rg++[o]):=by
 obtain ⟨e,h⟩:=h
 refine ⟨by simp [e],fun j hj hjk=>?_⟩
 by_cases ej:j=k
 ·subst ej
  have:(rg++[o]).getD j []=o:=by rw [← e];simp
  rw [this];exact ⟨h1,h2,h3⟩
 ·have:(rg++[o]).getD j []=rg.getD j []:=by
   rw [List.getD_eq_getElem?_getD,List.getElem?_append_left (by omega),List.getD_eq_getElem?_getD]
  rw [this];exact h j hj (by omega)
section
variable {V:Am} (C:Au V) {Q:VV→Prop}
include C
set_option maxHeartbeats 4000000 in
theorem Tk (p:PP) (h:GP2 p):VP V A5t [p.v] fun x=>∃ (t:A2) (e:Int),x = .tu [vT t,.i .i64 e]∧(e=0→A8 t):=by
 obtain ⟨gp,v2,v4,i4,nd,iv,t1,t4⟩:=h
 rw [Ac C.c_z78.1 C.c_z78.2]
 obtain ⟨_,⟨e0,k0,rfl⟩,qm⟩:=Db (A3g C p.nm p.vals p.ini p.thr p.ask _ gp)
 simp only [vPr,List.cons_append,List.nil_append] at qm
 obtain ⟨g1,g2,g3,g4,g5,g6⟩:=gp
 by_cases z0:e0=0
 ·subst z0
  simp only [A4b,D4,go_sem,↓reduceIte,qm,AF]
  have hname:∀ k (hk:k < p.ini.length),(p.ini.take (k+1)).map (·.1)=(p.ini.take k).map (·.1)++[p.ini[k].1]:=fun k hk=>by rw [List.take_succ_eq_append_getElem hk,List.map_append];rfl
  have hnl:∀ k,k≤p.ini.length→((p.ini.take k).map (·.1)).length=k:=fun k hk=>by simp;omega
  refine Ai (by decide) p.ini.length (by omega) (I:=fun k F h=>h=hB p ((p.ini.take k).map (·.1)) [] [] 0 false []∧A4.tmp F 1=p.f∧A4.tmp F 6 = .p 4 0 0 0∧A4.tmp F 2 = .p 0 0 0 0) ?_ ?_ ?_ 0 _ _ (Nat.zero_le _) ?_ ?_
  ·rintro k F h hk p7 ⟨rfl,p1,p6,p2⟩
   simp only [D4,go_sem,↓reduceIte,p7,p1,p6,p2]
  ·rintro k F h hk p7 ⟨rfl,p1,p6,p2⟩
   have hcell:p.ini[k]? = some p.ini[k]:=List.getElem?_eq_getElem hk
   rw [hname k hk]
   have hLl:=hnl k (by omega)
   generalize (p.ini.take k).map (·.1)=L at *
   subst hLl
   have b1:(L.length+1) * 16≤A7:=by unfold A7;omega
   simp only [D4,go_sem,↓reduceIte,p7,p1,p6,p2,hcell,b1]
   simp only [hB,eBd,List.length_append,List.length_cons,List.length_nil]
  ·rintro F h ⟨rfl,p1,p6,p2⟩
   rw [List.take_length]
   simp only [D4,go_sem,↓reduceIte,p1,p6,p2]
   refine Ai (by decide) p.thr.length (by omega) (I:=fun k F h=>HBr p k h∧A4.tmp F 1=p.f∧A4.tmp F 6 = .p 4 0 0 0∧A4.tmp F 2 = .p 0 0 0 0) ?_ ?_ ?_ 0 _ _ (Nat.zero_le _) ?_ ?_
   ·rintro k F h hk p8 ⟨⟨rg,hrg,rfl⟩,p1,p6,p2⟩
    simp only [D4,go_sem,↓reduceIte,p8,p1,p6,p2]
    exact ⟨rg,hrg,rfl⟩
   ·rintro k F h hk p8 ⟨⟨rg,hrg,rfl⟩,p1,p6,p2⟩
    have hcell:p.thr[k]? = some p.thr[k]:=List.getElem?_eq_getElem hk
    obtain ⟨m1,m2⟩:=g5 _ (List.getElem_mem hk)
    obtain ⟨_,⟨o,rfl,o1,o2,o3⟩,qr⟩:=Db (A0b C p.thr[k] m1 m2)
    have hst:=hrg.step hk o1 o2 o3
    have hl:=hrg.1
    subst hl
    have b1:(rg.length+1) * 24≤A7:=by unfold A7;omega
    simp only [D4,go_sem,↓reduceIte,p8,p1,p6,p2,hcell,qr,b1,Yn,CG]
    have e1:rg.map J9++[[VV.ls (List.map eS o)]]=(rg++[o]).map J9:=by simp
    rw [e1]
    refine ⟨.inr (Hr fun x=>rfl),rg++[o],hst,?_⟩
    have e2:({ ty:=BM,esz:=1,ver:=rg.length+1,nl:=false,rows:=(rg++[o]).map J9 }:VO)=AL BM 1 ((rg++[o]).map J9):=GK rfl
    rw [e2]
    simp only [hB,eBd,List.length_append,List.length_cons,List.length_nil,List.length_map]
   ·rintro F h ⟨⟨rg,hrg,rfl⟩,p1,p6,p2⟩
    have hl:=hrg.1
    have hrl:∀ l∈rg,l.length≤4∧l.Nodup:=fun l hl=>by
     obtain ⟨j,hj,e⟩:=List.mem_iff_getElem.1 hl
     have q:=hrg.2 j (by omega) (by omega)
     rw [List.getD_eq_getElem?_getD,List.getElem?_eq_getElem hj,Option.getD_some,e] at q
     exact ⟨PD q.1 q.2.1,q.1⟩
    simp only [D4,go_sem,↓reduceIte,p1,p6,p2]
    refine Ai (by decide) p.ini.length (by omega) (I:=fun k F h=>h=hB p (p.ini.map (·.1)) rg (Rx p.ini k) 0 false []∧A4.tmp F 1=p.f∧A4.tmp F 6 = .p 4 0 0 0∧A4.tmp F 2 = .p 0 0 0 0) ?_ ?_ ?_ 0 _ _ (Nat.zero_le _) ?_ ?_
    ·rintro k F h hk p9 ⟨rfl,p1,p6,p2⟩
     simp only [D4,go_sem,↓reduceIte,p9,p1,p6,p2]
    ·rintro k F h hk p9 ⟨rfl,p1,p6,p2⟩
     have hcell:p.ini[k]? = some (p.ini.getD k default):=by rw [List.getD_eq_getElem?_getD,List.getElem?_eq_getElem hk];rfl
     have qp:=fun Q=>Nf C p (p.ini.map (·.1)) rg (Rx p.ini k) 0 false [] ⟨-1,-1,3,k,0,(p.ini.getD k default).2,false,false,[]⟩ rfl (by rw [KF];omega) (Q:=Q)
     simp only [D4,go_sem,↓reduceIte,p9,p1,p6,p2,hcell,qp]
     rw [A6T]
    ·rintro F h ⟨rfl,p1,p6,p2⟩
     simp only [D4,go_sem,↓reduceIte,p1,p6,p2]
     have hz:=Abl (vals:=p.vals) (rg:=rg) iv
     unfold VL
     rw [A0]
     refine AW (M:=Nat) (I:=fun i F h=>i≤p.thr.length∧HBt p rg i h∧A4.tmp F 1=p.f∧A4.tmp F 6 = .p 4 0 0 0∧A4.tmp F 2 = .p 0 0 0 0∧A4.tmp F 10 = .i .i64 i) (μ:=fun i=>p.thr.length - i) ?_ 0 _ _ ⟨Nat.zero_le _,⟨Rx p.ini p.ini.length,0,false,rfl,by rw [KF];omega,fun _=>hz⟩,?_,?_,?_,?_⟩
     ·rintro i F h ⟨hi,⟨ns,th,long,rfl,h64,hth⟩,p1,p6,p2,p10⟩
      cases long with
      | true =>
       cases c:decide (i < p.thr.length) <;>
       simp only [Rz,D4,go_sem,↓reduceIte,p1,p6,p2,p10,c,A0]
       all_goals exact ⟨⟨0,[],[],[]⟩,3,rfl,fun h=>by cases h⟩
      | false =>
      by_cases hil:i < p.thr.length
      ·have hlt:i < rg.length:=by omega
       have hcell:p.thr[i]? = some p.thr[i]:=List.getElem?_eq_getElem hil
       obtain ⟨m1,m2⟩:=g5 _ (List.getElem_mem hil)
       have w1:=Gp (show i < 9223372036854775807 by omega)
       have c:(i:Int) < p.thr.length:=by omega
       have hri:=(hrg.2 i hil (by omega)).2.2
       have hr4:=(hrl _ (Ap (d:=[]) hlt)).1
       have hx:=ES (ty:=BM) (e:=1) (rows:=rg.map J9) (by rw [List.length_map];omega)
       have b8:(rg.getD i []).length * 8≤A7:=by unfold A7;omega
       let x:AK:=⟨i,-1,1,0,0,0,false,false,[]⟩
       rcases Nat.lt_or_ge ns.length 64 with q64 | q64
       ·have qp:=fun Q=>Nf C p (p.ini.map (·.1)) rg ns i false [] x rfl q64 (Q:=Q)
        obtain ⟨_,_,⟨rfl,ns',lg,s',rfl,h64',hg⟩,qk⟩:=DT (Afi C p ⟨v2,v4⟩ (p.ini.map (·.1)) (by simp;omega) rg i hlt (by omega) _ [p.thr[i]] (Nat.le_refl _) (fun l hl=>by
         rw [List.mem_singleton.1 hl];exact ⟨m1,fun s hs=>⟨m2 s hs,hri s hs⟩⟩) ns x (List.replicate (rg.getD i []).length 0) [] rfl rfl rfl q64 (by simp) (fun v hv=>by rw [(List.mem_replicate.1 hv).2];omega))
        simp only [fr,x,List.nil_append,hB,eBd,List.length_map,List.length_append,List.length_cons,List.length_nil,Nat.zero_add] at qk
        simp only [hB,eBd,List.length_map,List.length_append,List.length_cons,List.length_nil,Nat.zero_add] at qp
        simp only [Rz,D4,go_sem,↓reduceIte,p1,p6,p2,p10,c,A0,hcell,hil,hlt,hx,KD hlt,b8,qp,qk,x,w1]
        exact ⟨i+1,by omega,by omega,⟨ns',i,lg,by simp only [hB,eBd,List.length_map],h64',fun e=>Abk (hth rfl) rfl (hg e)⟩,rfl⟩
       ·have qp:=fun Q=>Dk C p (p.ini.map (·.1)) rg ns i false [] x q64 (Q:=Q)
        simp only [hB,eBd,List.length_map,List.length_append,List.length_cons,List.length_nil,Nat.zero_add] at qp
        simp only [Rz,D4,go_sem,↓reduceIte,p1,p6,p2,p10,c,A0,hcell,hil,hlt,hx,qp,x,w1]
        exact ⟨i+1,by omega,by omega,⟨ns,i,true,by simp only [hB,eBd,List.length_map],h64,fun e=>by cases e⟩,rfl⟩
      ·have hie:i=p.thr.length:=by omega
       have c:¬ (i:Int) < p.thr.length:=by omega
       subst hie
       simp only [Rz,D4,go_sem,↓reduceIte,p1,p6,p2,p10,c,A0]
       refine ⟨TT p.vals (p.ini.map (·.1)) rg ns,0,rfl,fun _=>?_⟩
       have:=hth rfl
       rw [← hl] at this
       exact A7s this v2 v4 (by simpa using i4) nd h64 (by omega) (by omega) hrl
     all_goals simp only [D4,go_sem,↓reduceIte,p1,p6,p2]
    ·simp only [D4,go_sem,↓reduceIte]
    ·simp only [D4,go_sem,↓reduceIte,p1,p6,p2]
     rfl
   ·simp only [D4,go_sem,↓reduceIte,p1,p6,p2]
   ·simp only [D4,go_sem,↓reduceIte,p1,p6,p2]
    exact ⟨[],⟨rfl,fun j hj hjk=>by omega⟩,rfl⟩
  ·simp only [D4,go_sem,↓reduceIte]
  ·simp only [D4,go_sem,↓reduceIte]
   rfl
 ·simp only [A4b,D4,go_sem,↓reduceIte,qm,z0]
  exact ⟨⟨0,[],[],[]⟩,e0,rfl,fun h=>absurd h z0⟩
end
theorem Hj.mono {V:Am} {g:Nat} {pa:List VV} {h:VH} {Q Q':VV→VH→Prop} (k:Hj V g pa h Q) (i:∀ v h,Q v h→Q' v h):Hj V g pa h Q':=by
 obtain ⟨vf,h1,h2⟩:=k
 exact ⟨vf,h1,h2.mono fun v h' ⟨r,ids,e1,e2,e3⟩=>⟨r,ids,e1,e2,i _ _ e3⟩⟩
attribute [go_sem] Ss List.contains_cons List.contains_nil
@[go_sem] theorem ApF (n:Nat):(n+1 == 0)=false:=rfl
@[go_sem] theorem Ane:((0:Nat) == 0)=true:=rfl
theorem AcK (j:Nat):∀ (ids:List Nat) (h:VH),j∉ids→(Bn ids h)[j]? = h[j]?:=by
 intro ids
 induction ids with
 | nil=>intro h _;rfl
 | cons i ids ih =>
  intro h hj
  rw [Bn,ih _ fun x=>hj (List.mem_cons_of_mem _ x),List.getElem?_set_ne fun e=>hj (by rw [← e];exact List.mem_cons_self)]
theorem A4Q {args:List VV} (h:VH) (j:Nat) (h1:(Ss args).contains j=true):(Bn (KT args h) h)[j]? = h[j]?:=by
 refine AcK j _ h ?_
 unfold KT
 rw [List.mem_filter,h1]
 exact fun h=>absurd h.2 (by simp)
theorem EG {args:List VV} (y x:Option VO) (r:VH) (h1:(Ss args).contains 1=true):∃ p:Option VO×VH,Bn (KT args (y::x::r)) (y::x::r)=p.1::x::p.2:=by
 have:=A4Q (y::x::r) 1 h1
 generalize Bn (KT args (y::x::r)) (y::x::r)=q at *
 rcases q with _ | ⟨a,_ | ⟨b,q⟩⟩
 ·simp at this
 ·simp at this
 ·simp at this
  exact ⟨(a,q),by rw [this]⟩
theorem Hj.to2 {V:Am} {g:Nat} {pa:List VV} {h:VH} {Q:VV→VH→Prop} (k:Hj V g pa h Q):LS V g pa h fun _ _=>True:=by
 obtain ⟨vf,h1,h2⟩:=k
 exact ⟨vf,h1,h2.mono fun _ _ _=>trivial⟩
abbrev MO (l:List U8) (a:Nat):Option VO:=some ⟨N9,0,0,false,[[lU l,.i .i64 a]]⟩
def MS (x0:Option VO) (l:List U8) (r h:VH):Prop:=∃ a,a≤l.length∧h=x0::MO l a::r
def UL (k:Nat):ByteArray:=match k with | 0=>bs [120] | 1=>bs [121] | 2=>bs [122] | _=>bs [119]
def T0 (k:Nat):ByteArray:=match k with | 0=>bs [97] | 1=>bs [98] | 2=>bs [99] | _=>bs [100]
def KR (v:VV):Prop:=∃ l:List ByteArray,l.Nodup∧(∀ n∈l,n∈N4)∧(v=lS l∨(v = .nl∧l=[]))
theorem Hm:min 1 6=1:=rfl
theorem Hn:min 2 6=2:=rfl
def Aok (v:VV):Prop:=∃ row,v = .ag row∧GE row
section
variable {V:Am} (C:Au V) {Q:VV→Prop}
include C
theorem AP (l:List U8) (hl:l.length≤1000∧∀ x∈l,x.n < 256) (a:Nat) (ha:a≤l.length) (n:Int) (r:VH) {x0:Option VO} :
  Hj V S8 [.p 1 0 0 0,.i .i64 n] (x0::MO l a::r) fun v h=>∃ k:Nat,v = .i .i64 k∧(1≤n→(k:Int) < n)∧MS x0 l r h:=by
 rw [CN C.h_z79]
 by_cases c1:l.length≤a
 ·simp only [Q1,JJ,go_sem,↓reduceIte,c1]
  exact ⟨0,rfl,fun h=>by omega,a,ha,rfl⟩
 ·by_cases c2:n < 1
  ·simp only [Q1,JJ,go_sem,↓reduceIte,c1,c2]
   exact ⟨0,rfl,fun h=>by omega,a,ha,rfl⟩
  ·have hlt:a < l.length:=by omega
   have hcell:l[a]? = some l[a]:=List.getElem?_eq_getElem hlt
   have hb:=hl.2 _ (List.getElem_mem hlt)
   have w0:IntKind.i64.wrap ((l[a].n:Nat):Int)=(l[a].n:Nat):=AC (by omega) (by omega)
   have w3:((l[a].n:Nat):Int).tmod n=(((l[a].n:Nat):Int) % n):=Int.tmod_eq_emod_of_nonneg (by omega)
   have w1:=Gp (show a < 9223372036854775807 by omega)
   have w2:IntKind.i64.wrap (((a+1:Nat):Int) - 1)=(a:Int):=by rw [AC (by omega) (by omega)];omega
   simp only [Q1,JJ,go_sem,↓reduceIte,c1,c2,hcell,w1,w2,G6 (show n≠0 by omega),w0,w3]
   have m1:=Int.emod_nonneg ((l[a].n:Nat):Int) (show n≠0 by omega)
   have m2:=Int.emod_lt_of_pos ((l[a].n:Nat):Int) (show 0 < n by omega)
   exact ⟨(((l[a].n:Nat):Int) % n).toNat,by omega,fun h=>by omega,a+1,by omega,rfl⟩
theorem HX (k:Nat) (hk:k < 4):VP V Xl [.i .i64 k] Q↔Q (.s (UL k)):=by
 refine Ad ?_
 rw [Ac C.c_z179.1 C.c_z179.2]
 have hm:((k:Int)).tmod 4=k:=by rw [Int.tmod_eq_emod_of_nonneg (by omega)];omega
 have w1:=Gp (show k < 9223372036854775807 by omega)
 have hb:k≤k+1∧k+1≤({ toList:=[120,121,122,119] }:Array UInt8).size:=⟨by omega,by show k+1≤4;omega⟩
 simp only [A1W,W6,go_sem,↓reduceIte,G6 (show (4:Int)≠0 by decide),hm,w1,hb]
 rcases (show k=0∨k=1∨k=2∨k=3 by omega) with rfl | rfl | rfl | rfl<;>rfl
theorem Aha (k:Nat) (hk:k < 4):VP V Xy [.i .i64 k] Q↔Q (.s (T0 k)):=by
 refine Ad ?_
 rw [Ac C.c_z200.1 C.c_z200.2]
 have hm:((k:Int)).tmod 4=k:=by rw [Int.tmod_eq_emod_of_nonneg (by omega)];omega
 have w1:=Gp (show k < 9223372036854775807 by omega)
 have hb:k≤k+1∧k+1≤({ toList:=[97,98,99,100] }:Array UInt8).size:=⟨by omega,by show k+1≤4;omega⟩
 simp only [A2b,Wf,go_sem,↓reduceIte,G6 (show (4:Int)≠0 by decide),hm,w1,hb]
 rcases (show k=0∨k=1∨k=2∨k=3 by omega) with rfl | rfl | rfl | rfl<;>rfl
abbrev vHp (vals:Int) (nl:Nat):VV:=.ag [.i .i64 vals,.i .i64 nl,.b false,.b false]
abbrev fHp (vals:Int) (nl:Nat):VV:=.fp [.i .i64 vals,.i .i64 nl,.b false,.b false] 0
theorem NG (l:List U8) (hl:l.length≤1000∧∀ x∈l,x.n < 256) (a:Nat) (ha:a≤l.length) (vals:Int) (nl:Nat) (ms:List Int) (hm:1≤ms.length∧ms.length≤1000) (r:VH) {x0:Option VO} :
  Hj V Xz [.p 1 0 0 0,vHp vals nl,lI ms] (x0::MO l a::r) fun v h=>(∃ k:Int,v = .i .i64 k∧k∈ms)∧MS x0 l r h:=by
 rw [CN C.h_z201]
 simp only [A2c,Nz,go_sem,↓reduceIte]
 refine (AP C l hl a ha _ r).mono ?_
 rintro _ _ ⟨k,rfl,hk,a,ha,rfl⟩
 have hk:=hk (by omega)
 have hlt:k < ms.length:=by omega
 simp only [Nz,go_sem,↓reduceIte,Az hlt]
 exact ⟨Ap hlt,a,ha,rfl⟩
theorem LE (l:List U8) (hl:l.length≤1000∧∀ x∈l,x.n < 256) (vals:Int) (hv:1≤vals∧vals≤4) (d:Nat):d≤1000→∀ (a:Nat) (ha:a≤l.length) (rg:VV) (hrg:KR rg) (r:VH) {x0:Option VO},
  Hj V MR [.p 1 0 0 0,rg,.i .i64 vals,.i .i64 d] (x0::MO l a::r) fun v h=>Aok v∧MS x0 l r h:=by
 induction d with
 | zero =>
  intro _ a ha rg hrg r x0
  rw [CN C.h_z202]
  simp only [Pg,Bc,go_sem,↓reduceIte]
  refine (AP C l hl a ha _ _).mono ?_
  rintro _ _ ⟨k,rfl,hk,a,ha,rfl⟩
  obtain ⟨nms,hnd,hn4,e⟩:=hrg
  have hn4l:=PD hnd hn4
  have num:∀ (a:Nat) (ha:a≤l.length) (Q:VV→VH→Prop),(∀ (k:Nat) (a:Nat),a≤l.length→Q (.i .i64 k) (x0::MO l a::(r++[some { ty:=Dj,esz:=0,ver:=0,nl:=false,rows:=[[.i .i64 0,.i .i64 0,.s (bs []),.nl]] }]))) →
    Hj V S8 [.p 1 0 0 0,.i .i64 vals] (x0::MO l a::(r++[some { ty:=Dj,esz:=0,ver:=0,nl:=false,rows:=[[.i .i64 0,.i .i64 0,.s (bs []),.nl]] }])) Q:=fun a ha Q hq =>
   (AP C l hl a ha _ _).mono (by rintro _ _ ⟨k,rfl,_,a,ha,rfl⟩;exact hq k a ha)
  rcases e with rfl | ⟨rfl,rfl⟩
  ·by_cases z:nms.length=0
   ·have z':¬ (0:Int) < nms.length:=by omega
    simp only [Bc,go_sem,↓reduceIte,z']
    refine num a ha _ ?_
    intro k a ha
    simp only [Bc,go_sem,↓reduceIte]
    exact ⟨⟨_,rfl,.mk _ _ _ _ (by simp) (by simp)⟩,a,ha,rfl⟩
   ·have z':(0:Int) < nms.length:=by omega
    by_cases z2:(2:Int) < k
    ·simp only [Bc,go_sem,↓reduceIte,z',z2]
     refine (AP C l hl a ha _ _).mono ?_
     rintro _ _ ⟨k,rfl,hk,a,ha,rfl⟩
     have hk:=hk (by omega)
     have hlt:k < nms.length:=by omega
     simp only [Bc,go_sem,↓reduceIte,Qr hlt]
     exact ⟨⟨_,rfl,.mk _ _ _ _ (by simp) (by simp)⟩,a,ha,rfl⟩
    ·simp only [Bc,go_sem,↓reduceIte,z',z2]
     refine num a ha _ ?_
     intro k a ha
     simp only [Bc,go_sem,↓reduceIte]
     exact ⟨⟨_,rfl,.mk _ _ _ _ (by simp) (by simp)⟩,a,ha,rfl⟩
  ·simp only [Bc,go_sem,↓reduceIte,Int.lt_irrefl,dz0]
   refine num a ha _ ?_
   intro k a ha
   simp only [Bc,go_sem,↓reduceIte]
   exact ⟨⟨_,rfl,.mk _ _ _ _ (by simp) (by simp)⟩,a,ha,rfl⟩
 | succ d ih =>
  intro hd a ha rg hrg r x0
  have c0:(0:Int) < ((d+1:Nat):Int):=by omega
  rw [CN C.h_z202]
  simp only [Pg,Bc,go_sem,↓reduceIte,c0]
  refine (AP C l hl a ha _ _).mono ?_
  rintro _ _ ⟨k,rfl,hk,a,ha,rfl⟩
  by_cases c5:(5:Int) < k
  ·simp only [Bc,go_sem,↓reduceIte,c5]
   refine (AP C l hl a ha _ _).mono ?_
   rintro _ _ ⟨k2,rfl,hk2,a,ha,rfl⟩
   have w1:IntKind.i64.wrap (((d+1:Nat):Int) - 1)=((d:Nat):Int):=by rw [AC (by omega) (by omega)];omega
   have hrg':=hrg
   obtain ⟨nms,_,_,e⟩:=hrg
   rcases e with rfl | ⟨rfl,rfl⟩
   ·simp only [Bc,go_sem,↓reduceIte,w1]
    refine (ih (by omega) a ha _ hrg' _).mono ?_
    rintro _ _ ⟨⟨r1,rfl,g1⟩,a,ha,rfl⟩
    cases g1 with
    | mk o1 n1 m1 ks1 q1 q2 =>
    simp only [Bc,go_sem,↓reduceIte,w1]
    obtain ⟨⟨y0,r'⟩,hr'⟩:=EG (args:=[.p 1 0 0 0,lS nms,.i .i64 vals,.i .i64 d]) x0 (MO l a) (r++[some { ty:=Dj,esz:=0,ver:=0,nl:=false,rows:=[[.i .i64 0,.i .i64 0,.s (bs []),.nl]] },some { ty:=Dj,esz:=0,ver:=0,nl:=false,rows:=[[.i .i64 o1,.i .i64 n1,.s m1,.ls ks1]] }]) rfl
    refine ⟨?_,?_⟩
    ·rw [hr']
     exact (ih (by omega) a ha _ hrg' _).to2
    refine (ih (by omega) a ha _ hrg' _).mono ?_
    rintro _ _ ⟨⟨r2,rfl,g2⟩,a,ha,rfl⟩
    cases g2 with
    | mk o2 n2 m2 ks2 q3 q4 =>
    simp only [Bc,go_sem,↓reduceIte,w1]
    exact ⟨⟨_,rfl,.mk _ _ _ _ (by simp) (fun x hx=>by
     rcases List.mem_cons.1 hx with rfl | hx
     ·exact .mk _ _ _ _ q1 q2
     ·rw [List.mem_singleton.1 hx];exact .mk _ _ _ _ q3 q4)⟩,a,ha,rfl⟩
   ·simp only [Bc,go_sem,↓reduceIte,w1]
    refine (ih (by omega) a ha _ hrg' _).mono ?_
    rintro _ _ ⟨⟨r1,rfl,g1⟩,a,ha,rfl⟩
    cases g1 with
    | mk o1 n1 m1 ks1 q1 q2 =>
    simp only [Bc,go_sem,↓reduceIte,w1]
    obtain ⟨⟨y0,r'⟩,hr'⟩:=EG (args:=[.p 1 0 0 0,.nl,.i .i64 vals,.i .i64 d]) x0 (MO l a) (r++[some { ty:=Dj,esz:=0,ver:=0,nl:=false,rows:=[[.i .i64 0,.i .i64 0,.s (bs []),.nl]] },some { ty:=Dj,esz:=0,ver:=0,nl:=false,rows:=[[.i .i64 o1,.i .i64 n1,.s m1,.ls ks1]] }]) rfl
    refine ⟨?_,?_⟩
    ·rw [hr']
     exact (ih (by omega) a ha _ hrg' _).to2
    refine (ih (by omega) a ha _ hrg' _).mono ?_
    rintro _ _ ⟨⟨r2,rfl,g2⟩,a,ha,rfl⟩
    cases g2 with
    | mk o2 n2 m2 ks2 q3 q4 =>
    simp only [Bc,go_sem,↓reduceIte,w1]
    exact ⟨⟨_,rfl,.mk _ _ _ _ (by simp) (fun x hx=>by
     rcases List.mem_cons.1 hx with rfl | hx
     ·exact .mk _ _ _ _ q1 q2
     ·rw [List.mem_singleton.1 hx];exact .mk _ _ _ _ q3 q4)⟩,a,ha,rfl⟩
  ·simp only [Bc,go_sem,↓reduceIte,c5]
   obtain ⟨nms,hnd,hn4,e⟩:=hrg
   have hn4l:=PD hnd hn4
   have num:∀ (a:Nat) (ha:a≤l.length) (Q:VV→VH→Prop),(∀ (k:Nat) (a:Nat),a≤l.length→Q (.i .i64 k) (x0::MO l a::(r++[some { ty:=Dj,esz:=0,ver:=0,nl:=false,rows:=[[.i .i64 0,.i .i64 0,.s (bs []),.nl]] }]))) →
     Hj V S8 [.p 1 0 0 0,.i .i64 vals] (x0::MO l a::(r++[some { ty:=Dj,esz:=0,ver:=0,nl:=false,rows:=[[.i .i64 0,.i .i64 0,.s (bs []),.nl]] }])) Q:=fun a ha Q hq =>
    (AP C l hl a ha _ _).mono (by rintro _ _ ⟨k,rfl,_,a,ha,rfl⟩;exact hq k a ha)
   rcases e with rfl | ⟨rfl,rfl⟩
   ·by_cases z:nms.length=0
    ·have z':¬ (0:Int) < nms.length:=by omega
     simp only [Bc,go_sem,↓reduceIte,z']
     refine num a ha _ ?_
     intro k a ha
     simp only [Bc,go_sem,↓reduceIte]
     exact ⟨⟨_,rfl,.mk _ _ _ _ (by simp) (by simp)⟩,a,ha,rfl⟩
    ·have z':(0:Int) < nms.length:=by omega
     by_cases z2:(2:Int) < k
     ·simp only [Bc,go_sem,↓reduceIte,z',z2]
      refine (AP C l hl a ha _ _).mono ?_
      rintro _ _ ⟨k,rfl,hk,a,ha,rfl⟩
      have hk:=hk (by omega)
      have hlt:k < nms.length:=by omega
      simp only [Bc,go_sem,↓reduceIte,Qr hlt]
      exact ⟨⟨_,rfl,.mk _ _ _ _ (by simp) (by simp)⟩,a,ha,rfl⟩
     ·simp only [Bc,go_sem,↓reduceIte,z',z2]
      refine num a ha _ ?_
      intro k a ha
      simp only [Bc,go_sem,↓reduceIte]
      exact ⟨⟨_,rfl,.mk _ _ _ _ (by simp) (by simp)⟩,a,ha,rfl⟩
   ·simp only [Bc,go_sem,↓reduceIte,Int.lt_irrefl,dz0]
    refine num a ha _ ?_
    intro k a ha
    simp only [Bc,go_sem,↓reduceIte]
    exact ⟨⟨_,rfl,.mk _ _ _ _ (by simp) (by simp)⟩,a,ha,rfl⟩
def AjS (v:VV):Prop:=∃ l:List ByteArray,l.Nodup∧(∀ n∈l,n∈N4)∧v=lS l
theorem Adz (nms:List ByteArray) (hnd:nms.Nodup) (hn4:∀ n∈nms,n∈N4) (reg:ByteArray) (hreg:reg∈N4):VP V XA [lS nms,.s reg] AjS:=by
 have hl:=PD hnd hn4
 rw [Ac C.c_z203.1 C.c_z203.2]
 simp only [A2d,HU,go_sem,↓reduceIte]
 refine Ai (by decide) nms.length (by omega) (I:=fun k F h=>h=[]∧A4.tmp F 0=lS nms∧A4.tmp F 1 = .s reg∧∀ (j:Nat) (hj:j < nms.length),j < k→¬ reg=nms[j]) ?_ ?_ ?_ 0 _ _ (Nat.zero_le _) ?_ ?_
 ·rintro k F h hk p5 ⟨rfl,p0,p1,p2⟩
  simp only [HU,go_sem,↓reduceIte,p5,p0,p1]
  exact p2
 ·rintro k F h hk p5 ⟨rfl,p0,p1,p2⟩
  by_cases e:nms[k]=reg
  ·simp only [HU,go_sem,↓reduceIte,p5,p0,p1,Qr hk,e]
   exact ⟨nms,hnd,hn4,rfl⟩
  ·simp only [HU,go_sem,↓reduceIte,p5,p0,p1,Qr hk,e]
   intro j hj hjk
   by_cases e2:j=k
   ·subst e2;exact fun h=>e h.symm
   ·exact p2 j hj (by omega)
 ·rintro F h ⟨rfl,p0,p1,p2⟩
  have hnot:reg∉nms:=fun h=>by
   obtain ⟨j,hj,e⟩:=List.mem_iff_getElem.1 h
   exact p2 j hj hj e.symm
  have b0:nms.length * 16≤A7:=by unfold A7;omega
  have b1:(nms.length+1) * 16≤A7:=by unfold A7;omega
  simp only [HU,go_sem,↓reduceIte,p0,p1,b0,b1]
  refine ⟨nms++[reg],List.nodup_append.2 ⟨hnd,by simp,by intro a ha b hb;simp at hb;subst hb;intro e;subst e;exact hnot ha⟩,fun n hn=>?_,?_⟩
  ·rcases List.mem_append.1 hn with h | h
   ·exact hn4 n h
   ·rw [List.mem_singleton.1 h];exact hreg
  ·rfl
 ·simp only [HU,go_sem,↓reduceIte]
 ·simp only [HU,go_sem,↓reduceIte]
  intro j hj hjk;omega
omit C in
theorem KR.frz {g:VV} (h:KR g):∃ nms:List ByteArray,nms.Nodup∧(∀ n∈nms,n∈N4)∧(∀ (hh:VH) (d:Nat),frz hh (d+1) g=some (lS nms,[]))∧(∀ L,Ni L g=g)∧∀ L,bel L g=true:=by
 obtain ⟨l,h1,h2,rfl | ⟨rfl,rfl⟩⟩:=h
 ·exact ⟨l,h1,h2,fun _ _=>rfl,fun _=>rfl,fun _=>rfl⟩
 ·exact ⟨[],h1,h2,fun _ _=>rfl,fun _=>rfl,fun _=>rfl⟩
omit C in
theorem KR.nil:KR .nl:=⟨[],by simp,by simp,.inr ⟨rfl,rfl⟩⟩
omit C in
theorem A7M {k:Nat} (hk:k < 4):T0 k∈N4∧(T0 k).size≤1000∧decide (T0 k=bs [])=false:=by
 rcases (show k=0∨k=1∨k=2∨k=3 by omega) with rfl | rfl | rfl | rfl<;>exact ⟨by simp [N4,T0,bs],by decide,by decide⟩
def HJ (nl:Nat):List ByteArray:=(List.range nl).map UL
omit C in
theorem A7K {k nl:Nat} (hk:k < nl):UL k∈HJ nl:=List.mem_map.2 ⟨k,List.mem_range.2 hk,rfl⟩
omit C in
theorem oks {L:List ByteArray} {kind mode:Int} {reg loc:ByteArray} {n:Nat} (hk:1≤kind∧kind≤7) (hr:H9 kind=true→reg∈N4) (hn:1≤n∨kind=2∨kind=6) (h2:kind=5→2≤n) (hl:kind=2∨kind=3∨kind=4∨kind=5→loc∈L)
  (m2:kind=2→mode=0∨mode=1∨mode=4) (m3:kind=3→mode=0∨mode=2∨mode=4) (ma:kind=4∨kind=5→0≤mode∧mode≤4) (mf:kind=6→1≤mode∧mode≤4) (hs:reg.size≤1000):OKS L kind mode reg loc n :=
 ⟨hk,hr,fun h=>by omega,h2,hl,m2,m3,ma,mf,hs⟩
omit C in
theorem LB {α:Type} {f:α→Option (α×List Nat)}:∀ {l:List α},(∀ x∈l,f x=some (x,[]))→B4 f l=some (l,[])
 | [],_=>rfl
 | x::xs,h=>by
  rw [B4,h x List.mem_cons_self,LB fun y hy=>h y (List.mem_cons_of_mem _ hy)];rfl
omit C in
theorem Adt {L:List ByteArray} {rows:List (List VV)} (h:∀ s∈rows,GS L s) (hh:VH) (d:Nat):B4 (fun row=>B4 (frz hh (d+1)) row) rows=some (rows,[]):=LB fun s hs=>(h s hs).frz
omit C in
theorem GS.bel {L:List ByteArray} {s:List VV} (h:GS L s) (n:Nat):CT n s=true:=by cases h;rfl
def SI (x0:Option VO) (l:List U8) (L:List ByteArray) (r:VH) (k:Nat) (v12:VV) (h:VH):Prop:=∃ (a:Nat) (rows:List (List VV)),a≤l.length∧rows.length≤k∧(∀ s∈rows,GS L s)∧v12 = .sl (r.length+1+1) rows.length 0 rows.length∧h=x0::MO l a::(r++[some (AL Mn 7 rows)])
omit C in
theorem SI.fin {x0:Option VO} {l:List U8} {L:List ByteArray} {r:VH} {k a:Nat} {rows:List (List VV)} {row:List VV} (ha:a≤l.length) (hrl:rows.length≤k) (hrs:∀ s∈rows,GS L s) (hg:GS L row) :
  (∀ n,(rows++[row]).all (CT n)=true)∧SI x0 l L r (k+1) (.sl (r.length+1+1) (rows.length+1) 0 (rows.length+1)) (x0::MO l a::(r++[some (AL Mn 7 (rows++[row]))])):=by
 have hall:∀ s∈rows++[row],GS L s:=fun s hs=>by
  rcases List.mem_append.1 hs with h | h
  ·exact hrs s h
  ·rw [List.mem_singleton.1 h];exact hg
 exact ⟨fun n=>by rw [List.all_eq_true];exact fun s hs=>(hall s hs).bel n,a,rows++[row],ha,by simp;omega,hall,by simp,rfl⟩
def Af3 (L:List ByteArray) (n:Nat) (v:VV):Prop:=∃ (rows:List (List VV)) (g:VV),v = .tu [.ls rows,g]∧rows.length≤n∧(∀ s∈rows,GS L s)∧AjS g
set_option maxHeartbeats 8000000 in
theorem KU (l:List U8) (hl:l.length≤1000∧∀ x∈l,x.n < 256) (vals:Int) (hv:1≤vals∧vals≤4) (nl:Nat) (hnl:1≤nl∧nl≤4) (d:Nat) (hd:d≤10) (ih:0 < d→∀ (a:Nat) (ha:a≤l.length) (rg:VV) (hrg:KR rg) (r:VH) {x0:Option VO},
      Hj V PA [.p 1 0 0 0,vHp vals nl,.i .i64 1,.i .i64 ((d - 1:Nat):Int),rg] (x0::MO l a::r) fun v h=>Af3 (HJ nl) 1 v∧MS x0 l r h)
    (n:Nat) (hn:n≤10) (a:Nat) (ha:a≤l.length) (rg:VV) (hrg:KR rg) (r:VH) {x0:Option VO} :
    Hj V PA [.p 1 0 0 0,vHp vals nl,.i .i64 n,.i .i64 d,rg] (x0::MO l a::r) fun v h=>Af3 (HJ nl) n v∧MS x0 l r h:=by
  rw [CN C.h_z180]
  simp only [A1X,B1,go_sem,↓reduceIte]
  refine Ai (by decide) n (by omega) (I:=fun k F h=>SI x0 l (HJ nl) r k (A4.tmp F 12) h∧A4.tmp F 0 = .p 1 0 0 0∧A4.tmp F 2 = .i .i64 n∧A4.tmp F 3 = .i .i64 d∧KR (A4.tmp F 4)∧A4.tmp F 6=fHp vals nl) ?_ ?_ ?_ 0 _ _ (Nat.zero_le _) ?_ ?_
  · rintro k F h hk p13 ⟨h12, p0, p2, p3, h4, p6⟩
    simp only [B1,go_sem,↓reduceIte,p13,p0,p2,p3,p6]
    exact ⟨h12,h4⟩
  · rintro k F h hk p13 ⟨⟨a, rows, ha, hrl, hrs, p12, rfl⟩, p0, p2, p3, h4, p6⟩
    obtain ⟨nms,hnd,hn4,hfz,hcl,hbel⟩:=h4.frz
    have b1:(rows.length+1) * 120≤A7:=by unfold A7;omega
    simp only [A4q,B1,go_sem,↓reduceIte,p0,p3,p6,p12,p13]
    refine (AP C l hl a ha _ _).mono ?_
    rintro _ _ ⟨k15,rfl,hk15,a,ha,rfl⟩
    try simp only [B1,go_sem,↓reduceIte,p0,p3,p6,p12,p13]
    refine (AP C l hl a ha _ _).mono ?_
    rintro _ _ ⟨k16,rfl,hk16,a,ha,rfl⟩
    have hk16:k16 < 4:=by have:=hk16 (by omega);omega
    obtain ⟨hr4,hrz,hrne⟩:=A7M hk16
    try simp only [B1,go_sem,↓reduceIte,p0,p3,p6,p12,p13,Aha C k16 hk16]
    refine (AP C l hl a ha _ _).mono ?_
    rintro _ _ ⟨k17,rfl,hk17,a,ha,rfl⟩
    have hk17:k17 < nl:=by have:=hk17 (by omega);omega
    have hlm:=A7K hk17
    obtain ⟨_,⟨nms2,w1,w2,rfl⟩,qw⟩:=Db (Adz C nms hnd hn4 (T0 k16) hr4)
    try simp only [B1,go_sem,↓reduceIte,p0,p2,p3,p6,p12,p13,HX C k17 (by omega)]
    by_cases c4:(k15:Int) < 4
    · try simp only [B1, go_sem, ↓reduceIte, p0, p2, p3, p6, p12, p13, hfz, hcl, hbel, hrne, b1, qw, A0, Hm, Hn, c4]
      refine (NG C l hl a ha vals nl [0,1,4] (by simp) _).mono ?_
      rintro _ _ ⟨⟨m,rfl,hm⟩,a,ha,rfl⟩
      simp only [List.mem_cons,List.not_mem_nil,or_false] at hm
      try simp only [B1,go_sem,↓reduceIte,p0,p2,p3,p6,p12,p13,hfz,hcl,hbel,hrne,b1,qw,A0,Hm,Hn]
      have hgs:GS (HJ nl) (rS 2 m (T0 k16) (UL k17) [] [] []):=.mk _ _ _ _ _ _ _ (by simp) (by simp) (by simp) (by simp) (by simp) (by simp) (oks (by omega) (fun _=>hr4) (by omega) (by omega) (fun _=>hlm) (fun _=>hm) (by omega) (by omega) (by omega) hrz)
      have hsi:=SI.fin (x0:=x0) (r:=r) ha hrl hrs hgs
      exact ⟨.inr (hsi.1 _),hsi.2,⟨nms2,w1,w2,.inl rfl⟩⟩
    by_cases c8:(k15:Int) < 8
    · try simp only [B1, go_sem, ↓reduceIte, p0, p2, p3, p6, p12, p13, hfz, hcl, hbel, hrne, b1, qw, A0, Hm, Hn, c4, c8]
      refine (NG C l hl a ha vals nl [0,2,4] (by simp) _).mono ?_
      rintro _ _ ⟨⟨m,rfl,hm⟩,a,ha,rfl⟩
      simp only [List.mem_cons,List.not_mem_nil,or_false] at hm
      try simp only [B1,go_sem,↓reduceIte,p0,p2,p3,p6,p12,p13,hfz,hcl,hbel,hrne,b1,qw,A0,Hm,Hn]
      refine (LE C l hl vals hv 1 (by omega) a ha _ h4 _).mono ?_
      rintro _ _ ⟨⟨r1,rfl,g1⟩,a,ha,rfl⟩
      have g1':=g1
      cases g1 with
      | mk o1 n1 m1 ks1 q1 z1 =>
      try simp only [B1,go_sem,↓reduceIte,p0,p2,p3,p6,p12,p13,hfz,hcl,hbel,hrne,b1,qw,A0,Hm,Hn]
      have hgs:GS (HJ nl) (rS 3 m (bs []) (UL k17) [[.i .i64 o1,.i .i64 n1,.s m1,.ls ks1]] [] []):=.mk _ _ _ _ _ _ _ (by simp) (by intro x hx;rw [List.mem_singleton.1 hx];exact g1') (by simp) (by simp) (by simp) (by simp) (oks (by omega) (fun h=>by simp [H9] at h) (.inl (by simp)) (by omega) (fun _=>hlm) (by omega) (fun _=>hm) (by omega) (by omega) (by decide))
      have hsi:=SI.fin (x0:=x0) (r:=r) ha hrl hrs hgs
      exact ⟨.inr (hsi.1 _),hsi.2,h4⟩
    by_cases e8:(k15:Int)=8
    · try simp only [B1, go_sem, ↓reduceIte, p0, p2, p3, p6, p12, p13, hfz, hcl, hbel, hrne, b1, qw, A0, Hm, Hn, c4, c8, e8]
      refine (NG C l hl a ha vals nl [0,1,2,3,4] (by simp) _).mono ?_
      rintro _ _ ⟨⟨m,rfl,hm⟩,a,ha,rfl⟩
      simp only [List.mem_cons,List.not_mem_nil,or_false] at hm
      try simp only [B1,go_sem,↓reduceIte,p0,p2,p3,p6,p12,p13,hfz,hcl,hbel,hrne,b1,qw,A0,Hm,Hn]
      refine (LE C l hl vals hv 1 (by omega) a ha _ h4 _).mono ?_
      rintro _ _ ⟨⟨r1,rfl,g1⟩,a,ha,rfl⟩
      have g1':=g1
      cases g1 with
      | mk o1 n1 m1 ks1 q1 z1 =>
      try simp only [B1,go_sem,↓reduceIte,p0,p2,p3,p6,p12,p13,hfz,hcl,hbel,hrne,b1,qw,A0,Hm,Hn]
      have hgs:GS (HJ nl) (rS 4 m (T0 k16) (UL k17) [[.i .i64 o1,.i .i64 n1,.s m1,.ls ks1]] [] []):=.mk _ _ _ _ _ _ _ (by simp) (by intro x hx;rw [List.mem_singleton.1 hx];exact g1') (by simp) (by simp) (by simp) (by simp) (oks (by omega) (fun _=>hr4) (.inl (by simp)) (by omega) (fun _=>hlm) (by omega) (by omega) (fun _=>by omega) (by omega) hrz)
      have hsi:=SI.fin (x0:=x0) (r:=r) ha hrl hrs hgs
      exact ⟨.inr (hsi.1 _),hsi.2,⟨nms2,w1,w2,.inl rfl⟩⟩
    by_cases e9:(k15:Int)=9
    · by_cases cd : (0 : Int) < d
      · have wd : IntKind.i64.wrap (((d : Nat) : Int) - 1) = ((d - 1 : Nat) : Int) := by rw [AC (by omega) (by omega)]; omega
        try simp only [B1,go_sem,↓reduceIte,p0,p2,p3,p6,p12,p13,hfz,hcl,hbel,hrne,b1,qw,A0,Hm,Hn,c4,c8,e8,e9,cd]
        refine (LE C l hl vals hv 1 (by omega) a ha _ h4 _).mono ?_
        rintro _ _ ⟨⟨r1,rfl,g1⟩,a,ha,rfl⟩
        have g1':=g1
        cases g1 with
        | mk o1 n1 m1 ks1 q1 z1 =>
        try simp only [B1,go_sem,↓reduceIte,p0,p2,p3,p6,p12,p13,hfz,hcl,hbel,hrne,b1,qw,A0,Hm,Hn,wd]
        refine (ih (by omega) a ha _ h4 _).mono ?_
        rintro _ _ ⟨⟨rt,gt,rfl,lt,ht,gk⟩,a,ha,rfl⟩
        obtain ⟨nmt,_,_,rfl⟩:=gk
        try simp only [B1,go_sem,↓reduceIte,p0,p2,p3,p6,p12,p13,hfz,hcl,hbel,hrne,b1,qw,A0,Hm,Hn,wd]
        refine (AP C l hl a ha _ _).mono ?_
        rintro _ _ ⟨kp,rfl,hkp,a,ha,rfl⟩
        by_cases ep:(kp:Int)=1
        · try simp only [B1, go_sem, ↓reduceIte, p0, p2, p3, p6, p12, p13, hfz, hcl, hbel, hrne, b1, qw, A0, Hm, Hn, wd, ep]
          refine (ih (by omega) a ha _ h4 _).mono ?_
          rintro _ _ ⟨⟨re,ge,rfl,le,he,gk⟩,a,ha,rfl⟩
          obtain ⟨nme,_,_,rfl⟩:=gk
          try simp only [B1,go_sem,↓reduceIte,p0,p2,p3,p6,p12,p13,hfz,hcl,hbel,hrne,b1,qw,A0,Hm,Hn,wd]
          have hgs:GS (HJ nl) (rS 7 0 (bs []) (bs []) [[.i .i64 o1,.i .i64 n1,.s m1,.ls ks1]] rt re):=.mk _ _ _ _ _ _ _ (by simp) (by intro x hx;rw [List.mem_singleton.1 hx];exact g1') (by omega) (by omega) (ht) (he) (oks (by omega) (fun h=>by simp [H9] at h) (.inl (by simp)) (by omega) (by omega) (by omega) (by omega) (by omega) (by omega) (by decide))
          have hsi:=SI.fin (x0:=x0) (r:=r) ha hrl hrs hgs
          exact ⟨.inr (hsi.1 _),hsi.2,h4⟩
        · try simp only [B1, go_sem, ↓reduceIte, p0, p2, p3, p6, p12, p13, hfz, hcl, hbel, hrne, b1, qw, A0, Hm, Hn, wd, ep]
          have hgs:GS (HJ nl) (rS 7 0 (bs []) (bs []) [[.i .i64 o1,.i .i64 n1,.s m1,.ls ks1]] rt []):=.mk _ _ _ _ _ _ _ (by simp) (by intro x hx;rw [List.mem_singleton.1 hx];exact g1') (by omega) (by simp) (ht) (by simp) (oks (by omega) (fun h=>by simp [H9] at h) (.inl (by simp)) (by omega) (by omega) (by omega) (by omega) (by omega) (by omega) (by decide))
          have hsi:=SI.fin (x0:=x0) (r:=r) ha hrl hrs hgs
          exact ⟨.inr (hsi.1 _),hsi.2,h4⟩
      · try simp only [B1, go_sem, ↓reduceIte, p0, p2, p3, p6, p12, p13, hfz, hcl, hbel, hrne, b1, qw, A0, Hm, Hn, c4, c8, e8, e9, cd]
        refine (NG C l hl a ha vals nl [0,1,2,3,4] (by simp) _).mono ?_
        rintro _ _ ⟨⟨m,rfl,hm⟩,a,ha,rfl⟩
        simp only [List.mem_cons,List.not_mem_nil,or_false] at hm
        try simp only [B1,go_sem,↓reduceIte,p0,p2,p3,p6,p12,p13,hfz,hcl,hbel,hrne,b1,qw,A0,Hm,Hn]
        refine (LE C l hl vals hv 0 (by omega) a ha _ h4 _).mono ?_
        rintro _ _ ⟨⟨r1,rfl,g1⟩,a,ha,rfl⟩
        have g1':=g1
        cases g1 with
        | mk o1 n1 m1 ks1 q1 z1 =>
        try simp only [B1,go_sem,↓reduceIte,p0,p2,p3,p6,p12,p13,hfz,hcl,hbel,hrne,b1,qw,A0,Hm,Hn]
        refine (LE C l hl vals hv 0 (by omega) a ha _ h4 _).mono ?_
        rintro _ _ ⟨⟨r2,rfl,g2⟩,a,ha,rfl⟩
        have g2':=g2
        cases g2 with
        | mk o2 n2 m2 ks2 q2 z2 =>
        try simp only [B1,go_sem,↓reduceIte,p0,p2,p3,p6,p12,p13,hfz,hcl,hbel,hrne,b1,qw,A0,Hm,Hn]
        have hgs:GS (HJ nl) (rS 5 m (T0 k16) (UL k17) [[.i .i64 o1,.i .i64 n1,.s m1,.ls ks1],[.i .i64 o2,.i .i64 n2,.s m2,.ls ks2]] [] []):=.mk _ _ _ _ _ _ _ (by simp) (by intro x hx;rcases List.mem_cons.1 hx with rfl | hx;exact g1';rw [List.mem_singleton.1 hx];exact g2') (by simp) (by simp) (by simp) (by simp) (oks (by omega) (fun _=>hr4) (.inl (by simp)) (fun _=>by simp) (fun _=>hlm) (by omega) (by omega) (fun _=>by omega) (by omega) hrz)
        have hsi:=SI.fin (x0:=x0) (r:=r) ha hrl hrs hgs
        exact ⟨.inr (hsi.1 _),hsi.2,⟨nms2,w1,w2,.inl rfl⟩⟩
    by_cases e10:(k15:Int)=10
    · try simp only [B1, go_sem, ↓reduceIte, p0, p2, p3, p6, p12, p13, hfz, hcl, hbel, hrne, b1, qw, A0, Hm, Hn, c4, c8, e8, e9, e10]
      refine (NG C l hl a ha vals nl [1,2,3,4] (by simp) _).mono ?_
      rintro _ _ ⟨⟨m,rfl,hm⟩,a,ha,rfl⟩
      simp only [List.mem_cons,List.not_mem_nil,or_false] at hm
      try simp only [B1,go_sem,↓reduceIte,p0,p2,p3,p6,p12,p13,hfz,hcl,hbel,hrne,b1,qw,A0,Hm,Hn]
      have hgs:GS (HJ nl) (rS 6 m (bs []) (bs []) [] [] []):=.mk _ _ _ _ _ _ _ (by simp) (by simp) (by simp) (by simp) (by simp) (by simp) (oks (by omega) (fun h=>by simp [H9] at h) (by omega) (by omega) (by omega) (by omega) (by omega) (by omega) (fun _=>by omega) (by decide))
      have hsi:=SI.fin (x0:=x0) (r:=r) ha hrl hrs hgs
      exact ⟨.inr (hsi.1 _),hsi.2,h4⟩
    · try simp only [B1, go_sem, ↓reduceIte, p0, p2, p3, p6, p12, p13, hfz, hcl, hbel, hrne, b1, qw, A0, Hm, Hn, c4, c8, e8, e9, e10]
      refine (LE C l hl vals hv 2 (by omega) a ha _ h4 _).mono ?_
      rintro _ _ ⟨⟨r1,rfl,g1⟩,a,ha,rfl⟩
      have g1':=g1
      cases g1 with
      | mk o1 n1 m1 ks1 q1 z1 =>
      try simp only [B1,go_sem,↓reduceIte,p0,p2,p3,p6,p12,p13,hfz,hcl,hbel,hrne,b1,qw,A0,Hm,Hn]
      have hgs:GS (HJ nl) (rS 1 0 (T0 k16) (bs []) [[.i .i64 o1,.i .i64 n1,.s m1,.ls ks1]] [] []):=.mk _ _ _ _ _ _ _ (by simp) (by intro x hx;rw [List.mem_singleton.1 hx];exact g1') (by simp) (by simp) (by simp) (by simp) (oks (by omega) (fun _=>hr4) (.inl (by simp)) (by omega) (by omega) (by omega) (by omega) (by omega) (by omega) hrz)
      have hsi:=SI.fin (x0:=x0) (r:=r) ha hrl hrs hgs
      exact ⟨.inr (hsi.1 _),hsi.2,⟨nms2,w1,w2,.inl rfl⟩⟩
  · rintro F h ⟨⟨a, rows, ha, hrl, hrs, p12, rfl⟩, p0, p2, p3, h4, p6⟩
    obtain ⟨nms,hnd,hn4,hfz,hcl,hbel⟩:=h4.frz
    have hmf:=Adt hrs
    simp only [B1,go_sem,↓reduceIte,p12,hfz,hmf]
    exact ⟨⟨rows,_,rfl,hrl,hrs,nms,hnd,hn4,rfl⟩,a,ha,rfl⟩
  · simp only [B1,go_sem,↓reduceIte]
  · simp only [B1, go_sem, ↓reduceIte]
    exact ⟨⟨a,[],ha,by simp,by simp,rfl,rfl⟩,hrg⟩
set_option maxHeartbeats 8000000 in
theorem Aak (l:List U8) (hl:l.length≤1000∧∀ x∈l,x.n < 256) (vals:Int) (hv:1≤vals∧vals≤4) (nl:Nat) (hnl:1≤nl∧nl≤4) (d:Nat):d≤10→∀ (n:Nat) (hn:n≤10) (a:Nat) (ha:a≤l.length) (rg:VV) (hrg:KR rg) (r:VH) {x0:Option VO},
  Hj V PA [.p 1 0 0 0,vHp vals nl,.i .i64 n,.i .i64 d,rg] (x0::MO l a::r) fun v h=>Af3 (HJ nl) n v∧MS x0 l r h:=by
 induction d with
 | zero=>exact fun _ n hn a ha rg hrg r=>KU C l hl vals hv nl hnl 0 (by omega) (fun h=>absurd h (by omega)) n hn a ha rg hrg r
 | succ d ih=>exact fun _ n hn a ha rg hrg r=>KU C l hl vals hv nl hnl (d+1) (by omega) (fun _ a ha rg hrg r=>ih (by omega) 1 (by omega) a ha rg hrg r) n hn a ha rg hrg r
end
end Go.AM
