/-
  Own work, part of the proof of these laws: what functions compute.
-/
import Derived.Test.YthhlhddnndlhkaaGreatDoorLDd
import Derived.Test.YthhlhddnndlhkaaGreatDoorKOd
set_option maxRecDepth 10000
set_option maxHeartbeats 64000000
set_option linter.unusedVariables false
set_option linter.unusedSimpArgs false
set_option linter.unusedSectionVars false
open List (length_map length_append length_take take_length nil_append map_append filter_append cons_append append_nil map_cons map_nil)
namespace Go.AM
open Go Go.Proofs
theorem AlG {t:A1} (ht:A5 t) {n j:Nat} (hn:n < t.nodes.length):(ovr t n).getLsbD j=(decide (j < t.nodes.length) && Aw t j n):=by
 have h0:=ht.n64
 by_cases c:j < 64
 .have h:=(Xx ht.up c (n+1) n (by omega) hn).1
  rw [AC] at h
  rw [h]
  cases d:Aw t j n with
  | false=>rw [Bool.and_false]
  | true =>
   have:=Agt ht.up (a:=j) (n+1) n (by omega) hn d
   rw [decide_eq_true (show j < t.nodes.length by omega)];rfl
 .rw [BitVec.getLsbD_of_ge _ _ (by omega),decide_eq_false (by omega),Bool.false_and]
theorem ApE {t:A1} (ht:A5 t) {n:Nat} (hn:n < t.nodes.length):((BS fun b=>decide (b < t.nodes.length) && decide ((t.at b).thread < 0)) ||| ovr t n) ||| C4 (n:Int)=CC t n:=by
 have h0:=ht.n64
 apply B1
 intro j hj
 rw [BitVec.getLsbD_or,BitVec.getLsbD_or,Au,AlG ht hn,Rc hj,CC,Au,decide_eq_true hj,Bool.and_true,Bool.and_true,Bool.eq_iff_iff]
 simp only [Bool.or_eq_true,Bool.and_eq_true,decide_eq_true_eq]
 constructor
 .rintro ((⟨h1,h2⟩ | ⟨h1,h2⟩) | h)
  .exact ⟨h1,.inl (.inl h2)⟩
  .exact ⟨h1,.inr h2⟩
  .subst h;exact ⟨hn,.inl (.inr rfl)⟩
 .rintro ⟨h1,(h2 | h2) | h2⟩
  .exact .inl (.inl ⟨h1,h2⟩)
  .exact .inr h2.symm
  .exact .inl (.inr ⟨h1,h2⟩)
theorem Ahz {n:Nat} (hn:n<=64) (p:Nat->Bool):Ay (BS fun b=>decide (b < n) && p b)=nI ((List.range n).filter p):=by
 unfold Ay nI
 congr 1
 unfold Ca
 have e:64=n+(64 - n):=by omega
 have h0:∀ k,(List.range (n+k)).filter (fun i=>decide (i < n) && p i)=(List.range n).filter p:=by
  intro k
  induction k with
  | zero=>
   rw [Nat.add_zero]
   exact List.filter_congr fun i hi=>by rw [decide_eq_true (List.mem_range.1 hi),Bool.true_and]
  | succ k ih =>
   rw [<- Nat.add_assoc,List.range_succ,filter_append,ih,List.filter_cons_of_neg (by rw [decide_eq_false (by omega)];simp),List.filter_nil,append_nil]
 rw [<- h0 (64 - n),<- e]
 refine List.filter_congr fun i hi=>?_
 rw [Au,decide_eq_true (List.mem_range.1 hi),Bool.and_true]
section
variable {V:At} (C:Aq V) {Q:VV->Prop}
include C
theorem A7O (t:A1) {n:Nat} (hn:n < t.nodes.length):VP V W7 [vD t,.i .i64 n] Q↔Q (.b true):=by
 refine Ae ?_
 rw [Ad C.c_z192.1 C.c_z192.2]
 have d1:decide (0<=(n:Int))=true:=decide_eq_true (by omega)
 have d2:decide ((n:Int) < (t.nodes.length:Int))=true:=decide_eq_true (by omega)
 simp only [A0b,go_sem,↓reduceIte,d1,d2,hn,length_map]
theorem A7M (t:A1) (i:Int) {n:Nat} (hn:n < t.nodes.length):VP V Qh [.i .i64 n,.fp (eT t) 0,.fp [.i .i64 i] 0] Q↔Q (.b (decide ((t.at n).thread=i) && (t.at n).fin)):=by
 refine Ae ?_
 rw [Ad C.c_z191.1 C.c_z191.2]
 cases d:decide ((t.at n).thread=i)<;>simp only [A0a,go_sem,↓reduceIte,hn,A7 hn,d,Bool.true_and,Bool.false_and]
theorem AaS (t:A1) (ht:A5 t) (i:Nat):VP V Vk [vT t,.i .i64 i] Q↔Q (lI (nI (Dw t i))):=by
 refine Ae ?_
 rw [Ad C.c_z145.1 C.c_z145.2]
 have s1:=fun (Q:VV->Prop)=>KI C t ht (Q:=Q)
 have d1:decide ((i:Int) < 0)=false:=decide_eq_false (by omega)
 have s2:=fun (Q:VV->Prop)=>Qw C t ht.n64 (gf:=Qh) (a:=[]) (c:=[.fp (eT t) 0,.fp [.i .i64 i] 0]) Fz.nil (fun _ _=>rfl) (fun n=>decide ((t.at n).thread=(i:Int)) && (t.at n).fin) (fun n hn=>(A7M C t i hn).2 rfl) (Q:=Q)
 have e:=Ahz ht.n64 fun n=>decide ((t.at n).thread=(i:Int)) && (t.at n).fin
 simp only [ZI,go_sem,↓reduceIte,s1,s2,d1,CZ C,e]
 rfl
theorem AcB (t:A1) (ht:A5 t) {n:Nat} (hn:n < t.nodes.length):VP V Vl [vT t,.i .i64 n] Q↔Q (vW (CC t n)):=by
 refine Ae ?_
 rw [Ad C.c_z146.1 C.c_z146.2]
 have s1:=fun (Q:VV->Prop)=>KI C t ht (Q:=Q)
 have s2:=fun (Q:VV->Prop)=>Qw C t ht.n64 (gf:=Qi) (fzD C t) Fz.nil (fun a=>decide ((t.at a).thread < 0)) (fun i hi=>(J1 C t hi).2 rfl) (Q:=Q)
 have s3:=fun (Q:VV->Prop)=>A7O C t hn (Q:=Q)
 have gO:(Afo t)[n]? = some (ovr t n):=Aar hn
 have lO:(Afo t).length=t.nodes.length:=by rw [Afo,length_map,List.length_range]
 simp only [ZJ,go_sem,↓reduceIte,s1,s2,s3,gO,lO,hn,C0 C,ApE ht hn]
end
theorem AfX {w S:BitVec 64}:decide (w &&& ~~~S=0#64)=decide (w ||| S=S):=by
 refine decide_eq_decide.2 ?_
 rw [Kh]
 constructor
 .intro h j hj hw
  have:=congrArg (fun x=>x.getLsbD j) h
  simp only [BitVec.getLsbD_and,BitVec.getLsbD_not,BitVec.getLsbD_zero,hw,Bool.true_and,decide_eq_true hj] at this
  cases c:S.getLsbD j with
  | true=>rfl
  | false=>rw [c] at this;cases this
 .intro h
  apply B1
  intro j hj
  rw [BitVec.getLsbD_and,BitVec.getLsbD_not,BitVec.getLsbD_zero,decide_eq_true hj,Bool.true_and]
  cases c:w.getLsbD j with
  | false=>rfl
  | true=>rw [h j hj c];rfl
def Ps (t:A1) (S:BitVec 64) (l:List Nat) (k:Nat):List (BitVec 64):=((l.take k).map (CC t)).filter fun w=>decide (w ||| S=S)
theorem Am7 {t:A1} {S:BitVec 64} {l:List Nat} {k:Nat} (hk:k < l.length) (h:decide (CC t l[k] ||| S=S)=true):Ps t S l (k+1)=Ps t S l k++[CC t l[k]]:=by
 rw [Ps,List.take_succ_eq_append_getElem hk,map_append,filter_append,map_cons,map_nil,List.filter_cons_of_pos (p:=fun w=>decide (w ||| S=S)) h,List.filter_nil];rfl
theorem Am6 {t:A1} {S:BitVec 64} {l:List Nat} {k:Nat} (hk:k < l.length) (h:decide (CC t l[k] ||| S=S)=false):Ps t S l (k+1)=Ps t S l k:=by
 rw [Ps,List.take_succ_eq_append_getElem hk,map_append,filter_append,map_cons,map_nil,List.filter_cons_of_neg (p:=fun w=>decide (w ||| S=S)) (by simp only [h];decide),List.filter_nil,append_nil];rfl
theorem AfU (t:A1) (S:BitVec 64) (l:List Nat) (k:Nat):(Ps t S l k).length<=k:=by
 refine Nat.le_trans (List.length_filter_le _ _) ?_
 rw [length_map,length_take];omega
theorem Zi (t:A1) (i:Nat):(Dw t i).length<=t.nodes.length:=by
 refine Nat.le_trans (List.length_filter_le _ _) ?_;simp
section
variable {V:At} (C:Aq V) {Q:VV->Prop}
include C
theorem A8D (t:A1) (ht:A5 t) (S:BitVec 64) (i:Nat):VP V Pg [.ag (eT t++[vW S]),.i .i64 i] Q↔Q (lW (Dl t S i)):=by
 refine Ae ?_
 rw [Ad C.c_z84.1 C.c_z84.2]
 have h9:=ht.n64
 have hE:=Zi t i
 have s1:=fun (Q:VV->Prop)=>AaS C t ht i (Q:=Q)
 have h1:∀ k (hk:k < (Dw t i).length),(Dw t i)[k] < t.nodes.length:=fun k hk=>(Gh.1 (List.getElem_mem hk)).1
 have h0:Ps t S (Dw t i) (Dw t i).length=Dl t S i:=by rw [Ps,take_length];rfl
 obtain ⟨E,h7⟩:∃ E,E=Dw t i:=⟨_,rfl⟩
 rw [<- h7] at hE s1 h1 h0
 have h4:=C2 E
 simp only [A9C,go_sem,↓reduceIte,s1,h4,cons_append,nil_append]
 refine Ag (by decide) E.length (by omega) (I:=fun k F h=>A4.tmp F 2 = .fp (eT t++[vW S]) 0/\A4.tmp F 12=lI (nI E)/\∃ L,L=Ps t S E k/\A4.tmp F 5 = .sl 0 L.length 0 L.length/\h=[some (AW AK 1 (L.map eW))]) ?_ ?_ 0 _ _ (by omega) ?_ ?_ ?_
 .rintro k F h hk h6 h5 ⟨p2,h3,L,hL,p5,rfl⟩
  have gE:(nI E)[k]? = some ((E[k]:Nat):Int):=by rw [nI,List.getElem?_map,List.getElem?_eq_getElem hk];rfl
  have hw:=fun (Q:VV->Prop)=>AcB C t ht (h1 k hk) (Q:=Q)
  have h2:=AfX (w:=CC t E[k]) (S:=S)
  have h8:=AfU t S E k
  have b1:(L.length+1) * 8<=Aa:=by rw [hL];unfold Aa;omega
  cases c:decide (CC t E[k] ||| S=S) with
  | false =>
   rw [c] at h2
   simp only [go_sem,↓reduceIte,h6,h5,p2,h3,p5,gE,hk,h4,hw,Hb C,h2,A0,cons_append,nil_append]
   exact ⟨L,by rw [Am6 hk c];exact hL,rfl,rfl⟩
  | true =>
   rw [c] at h2
   simp only [go_sem,↓reduceIte,h6,h5,p2,h3,p5,gE,hk,h4,hw,Hb C,h2,A0,b1,Acr,length_append,length_map,cons_append,nil_append]
   exact ⟨L++[CC t E[k]],by rw [Am7 hk c,hL],by simp,rfl⟩
 .rintro F h ⟨p2,h3,L,hL,p5,rfl⟩
  rw [h0] at hL
  subst hL
  simp only [go_sem,↓reduceIte,p2,h3,p5,length_map]
 .simp only [go_sem,↓reduceIte]
 .simp only [go_sem,↓reduceIte]
 .simp only [go_sem,↓reduceIte]
  exact ⟨[],rfl,rfl,rfl⟩
end
theorem Ab2 (t:A1) (ht:A5 t) (S:BitVec 64) (i:Nat):(Dl t S i).length<=64:=by
 have h1:=Zi t i
 have h2:=ht.n64
 rw [Dl]
 refine Nat.le_trans (List.length_filter_le _ _) ?_
 rw [length_map];omega
theorem A8j (t:A1) (ht:A5 t) (S:BitVec 64):∀ k,(BU t S k).length<=64 ^ k
 | 0=>by rw [BU];simp
 | k+1=>by
  rw [A6y,Nat.pow_succ]
  exact Nat.mul_le_mul (A8j t ht S k) (Ab2 t ht S k)
theorem Yu (t:A1) (ht:A5 t) (S:BitVec 64) {k:Nat} (hk:k<=t.regs.length):(BU t S k).length<=16777216:=by
 have h1:=A8j t ht S k
 have h2:=ht.r4
 have h3:64 ^ k<=64 ^ 4:=Nat.pow_le_pow_right (by decide) (by omega)
 exact Nat.le_trans h1 h3
def flW (O W:List (BitVec 64)) (k:Nat):List (BitVec 64):=(O.take k).flatMap fun s=>W.map fun w=>s ||| w
theorem A9R {O W:List (BitVec 64)} {k:Nat} (hk:k < O.length):flW O W (k+1)=flW O W k++W.map fun w=>O[k] ||| w:=by
 rw [flW,List.take_succ_eq_append_getElem hk,List.flatMap_append,List.flatMap_cons,List.flatMap_nil,append_nil];rfl
theorem Adi (O W:List (BitVec 64)) (k:Nat) (hW:W.length<=64) (hO:O.length<=16777216):(flW O W k).length<=16777216 * 64:=by
 have h0:∀ l:List (BitVec 64),(l.flatMap fun s=>W.map fun w=>s ||| w).length<=l.length * 64:=by
  intro l
  induction l with
  | nil=>simp
  | cons x l ih=>rw [List.flatMap_cons,length_append,length_map,List.length_cons,Nat.succ_mul];omega
 have h:=h0 (O.take k)
 rw [length_take] at h
 rw [flW]
 have:min k O.length * 64<=16777216 * 64:=Nat.mul_le_mul_right _ (by omega)
 omega
section
variable {V:At} (C:Aq V) {Q:VV->Prop}
include C
theorem Abx (t:A1) (ht:A5 t) (S:BitVec 64):VP V A5O [.ag (eT t++[vW S]),.f Pg [.ag (eT t++[vW S])] []] Q↔Q (lW (BU t S t.regs.length)):=by
 refine Ae ?_
 rw [Ad C.c_z83.1 C.c_z83.2]
 have hr:=ht.r4
 have ha:=fun (i:Nat) (Q:VV->Prop)=>A8D C t ht S i (Q:=Q)
 simp only [cons_append,nil_append] at ha ⊢
 simp only [A9B,go_sem,↓reduceIte,cons_append,nil_append,length_map]
 refine Ag (by decide) t.regs.length (by omega) (I:=fun i F h=>A4.tmp F 1 = .f Pg [.ag [.i .i64 t.vals,lS t.locs,.ls (t.regs.map JE),.ls (t.nodes.map eN),vW S]] []/\A4.tmp F 5=lW (BU t S i)/\h=[]) ?_ ?_ 0 _ _ (by omega) ?_ ?_ ?_
 .rintro i F h hi hc hb ⟨p1,p5,rfl⟩
  have hO:=Yu t ht S (k:=i) (by omega)
  have hW:=Ab2 t ht S i
  have hn:BU t S (i+1)=flW (BU t S i) (Dl t S i) (BU t S i).length:=by rw [flW,take_length,BU]
  rw [hn]
  obtain ⟨O,hf⟩:∃ O,O=BU t S i:=⟨_,rfl⟩
  obtain ⟨W,hg⟩:∃ W,W=Dl t S i:=⟨_,rfl⟩
  have h9:=fun (Q:VV->Prop)=>ha i Q
  rw [<- hf] at hO p5 ⊢
  rw [<- hg] at hW h9 ⊢
  simp only [go_sem,↓reduceIte,hc,hb,p1,p5,A0]
  refine Ag (by decide) O.length (by omega) (I:=fun k F h=>A4.tmp F 17 = .i .i64 i/\A4.tmp F 16 = .i .i64 t.regs.length/\A4.tmp F 6 = .i .i64 i/\A4.tmp F 1 = .f Pg [.ag [.i .i64 t.vals,lS t.locs,.ls (t.regs.map JE),.ls (t.nodes.map eN),vW S]] []/\A4.tmp F 20=lW O/\∃ L,L=flW O W k/\A4.tmp F 7 = .sl 0 L.length 0 L.length/\h=[some (AW AK 1 (L.map eW))]) ?_ ?_ 0 _ _ (by omega) ?_ ?_ ?_
  .rintro k F h hk he hd ⟨h1,h0,q6,q1,h2,L,hL,q7,rfl⟩
   have gO:O[k]? = some O[k]:=List.getElem?_eq_getElem hk
   obtain ⟨x,hx⟩:∃ x,x=O[k]:=⟨_,rfl⟩
   rw [<- hx] at gO
   have hm:=Adi O W k hW hO
   simp only [go_sem,↓reduceIte,he,hd,h1,h0,q6,q1,h2,q7,gO,hk,h9,A0]
   refine Ag (by decide) W.length (by omega) (I:=fun j F h=>A4.tmp F 22 = .i .i64 k/\A4.tmp F 21 = .i .i64 O.length/\A4.tmp F 17 = .i .i64 i/\A4.tmp F 16 = .i .i64 t.regs.length/\A4.tmp F 6 = .i .i64 i/\A4.tmp F 1 = .f Pg [.ag [.i .i64 t.vals,lS t.locs,.ls (t.regs.map JE),.ls (t.nodes.map eN),vW S]] []/\A4.tmp F 20=lW O/\A4.tmp F 9=vW x/\A4.tmp F 28=lW W/\∃ M,M=L++(W.take j).map (fun w=>x ||| w)/\A4.tmp F 7 = .sl 0 M.length 0 M.length/\h=[some (AW AK 1 (M.map eW))]) ?_ ?_ 0 _ _ (by omega) ?_ ?_ ?_
   .rintro j F h hj hl hh ⟨h7,h6,h4,h3,r6,r1,h5,r9,h8,M,hM,r7,rfl⟩
    have gW:W[j]? = some W[j]:=List.getElem?_eq_getElem hj
    have ho:M.length<=16777216 * 64+64:=by rw [hM,length_append,length_map,length_take,hL];omega
    have b1:(M.length+1) * 8<=Aa:=by unfold Aa;omega
    simp only [go_sem,↓reduceIte,hl,hh,h7,h6,h4,h3,r6,r1,h5,r9,h8,r7,gW,hj,A0,b1,Acr,length_append,length_map]
    exact ⟨M++[x ||| W[j]],by rw [hM,List.take_succ_eq_append_getElem hj,map_append,List.append_assoc];rfl,by simp,rfl⟩
   .rintro F h ⟨h7,h6,h4,h3,r6,r1,h5,r9,h8,M,hM,r7,rfl⟩
    simp only [go_sem,↓reduceIte,h7,h6,h4,h3,r6,r1,h5,r9,h8,r7]
    exact ⟨M,by rw [A9R hk,<- hx,hM,take_length,hL],rfl,rfl⟩
   .simp only [go_sem,↓reduceIte]
   .simp only [go_sem,↓reduceIte]
   .simp only [go_sem,↓reduceIte,he,hd,h1,h0,q6,q1,h2]
    exact ⟨L,by simp,q7,rfl⟩
  .rintro F h ⟨h1,h0,q6,q1,h2,L,hL,q7,rfl⟩
   subst hL
   simp only [go_sem,↓reduceIte,h1,h0,q6,q1,h2,q7,length_map]
  .simp only [go_sem,↓reduceIte]
  .simp only [go_sem,↓reduceIte]
  .simp only [go_sem,↓reduceIte,hc,hb,p1]
   exact ⟨[],rfl,rfl,rfl⟩
 .rintro F h ⟨p1,p5,rfl⟩
  simp only [go_sem,↓reduceIte,p1,p5]
 .simp only [go_sem,↓reduceIte]
 .simp only [go_sem,↓reduceIte]
 .simp only [go_sem,↓reduceIte]
  rfl
end
abbrev lLI (l:List (List Int)):VV:=.ls (l.map Hv)
def tkO (t:A1) (S:BitVec 64):Option VO:=some ⟨A6p,0,0,false,[[.i .i64 t.vals,lS t.locs,.ls (t.regs.map JE),.ls (t.nodes.map eN),vW S]]⟩
def Ei (t:A1) (s:A6):List (List Int):=(BU t (DH t s) t.regs.length).map Ay
theorem AdT (ys:List (List Int)) (y:List Int):ys.map Hv++[[lI y]]=(ys++[y]).map Hv:=by simp
section
variable {V:At} (C:Aq V) {Q:VV->Prop}
include C
theorem ED (t:A1) (ht:A5 t) (s:A6) (hs:DL s) (hf:AG t s):VP V R5 [vT t,Dy s] Q↔Q (lLI (Ei t s)):=by
 refine Ae ?_
 rw [Ad C.c_z34.1 C.c_z34.2]
 have h4:=AE.2 hf
 have ok:=GV hf ht
 have hX:=Yu t ht (DH t s) (Nat.le_refl _)
 have h2:=fun (Q:VV->Prop)=>K2 C t ht s hs hf ok (Q:=Q)
 have h0:=fun (Q:VV->Prop)=>Abx C t ht (DH t s) (Q:=Q)
 unfold Ei
 obtain ⟨S,hS⟩:∃ S,S=DH t s:=⟨_,rfl⟩
 rw [<- hS] at hX h2 h0 ⊢
 obtain ⟨X,h3⟩:∃ X,X=BU t S t.regs.length:=⟨_,rfl⟩
 rw [<- h3] at hX h0 ⊢
 simp only [cons_append,nil_append] at h0
 simp only [A3o,go_sem,↓reduceIte,Dt C t ht s hs,h4,h2,h0,cons_append,nil_append,show min 4 5=4 from rfl,Nat.reduceAdd,Nat.reduceSub]
 refine Ag (by decide) X.length (by omega) (I:=fun k F h=>A4.tmp F 22=lW X/\∃ ys:List (List Int),ys=(X.take k).map Ay/\A4.tmp F 5 = .sl 0 ys.length 0 ys.length/\h=[some (AW D7 1 (ys.map Hv)),tkO t S]) ?_ ?_ 0 _ _ (by omega) ?_ ?_ ?_
 .rintro k F h hk h6 h5 ⟨h1,ys,hy,p5,rfl⟩
  have gX:X[k]? = some X[k]:=List.getElem?_eq_getElem hk
  have h7:ys.length<=16777216:=by rw [hy,length_map,length_take];omega
  have b1:(ys.length+1) * 24<=Aa:=by unfold Aa;omega
  simp only [go_sem,↓reduceIte,h6,h5,h1,p5,gX,hk,CZ C,b1,tkO,AdT,length_append,length_map,A0]
  exact ⟨ys++[Ay X[k]],by rw [hy,List.take_succ_eq_append_getElem hk,map_append];rfl,by simp,rfl⟩
 .rintro F h ⟨h1,ys,hy,p5,rfl⟩
  rw [take_length] at hy
  subst hy
  simp only [go_sem,↓reduceIte,h1,p5,tkO,length_map]
 .simp only [go_sem,↓reduceIte]
 .simp only [go_sem,↓reduceIte]
 .simp only [go_sem,↓reduceIte,tkO]
  exact ⟨[],rfl,rfl,rfl⟩
end
end Go.AM
