/-
  Own work, part of the proof of these laws: what functions compute.
-/
import Derived.Test.YthhlhddnndlhkaaGreatDoorKOe
import Derived.Test.YthhlhddnndlhkaaGreatDoorKPe
set_option maxRecDepth 10000
set_option maxHeartbeats 64000000
set_option linter.unusedVariables false
set_option linter.unusedSimpArgs false
set_option linter.unusedSectionVars false
open List (getElem?_eq_getElem length_map length_append length_take take_length all_eq_true nil_append map_append filter_append range_succ take_succ_eq_append_getElem cons_append append_nil map_cons length_filter_le map_nil)
open Nat (le_trans)
open BitVec (getLsbD_or getLsbD_and)
namespace Go.AM
open Go Go.Proofs
theorem AlG {t:A1} (ht:A5 t) {n j:Nat} (hn:n < t.nodes.length):(ovr t n).getLsbD j=(decide (j < t.nodes.length) && Aw t j n):=by
 have h0:=ht.n64
 by_cases c:j < 64
 .have h:=(Xx ht.up c (n+1) n (by omega) hn).1
  rw [AC] at h
  rw [h]
  cases d:Aw t j n with
  | false=>rw [Bool.and_false]
  | true =>
   have:=Agt ht.up (a:=j) (n+1) n (by omega) hn d
   rw [decide_eq_true (show j < t.nodes.length by omega)];rfl
 .rw [BitVec.getLsbD_of_ge _ _ (by omega),decide_eq_false (by omega),Bool.false_and]
theorem ApE {t:A1} (ht:A5 t) {n:Nat} (hn:n < t.nodes.length):((BS fun b=>decide (b < t.nodes.length) && decide ((t.at b).thread < 0)) ||| ovr t n) ||| C4 (n:Int)=CC t n:=by
 have h0:=ht.n64
 apply B1
 intro j hj
 rw [getLsbD_or,getLsbD_or,Au,AlG ht hn,Rc hj,CC,Au,decide_eq_true hj,Bool.and_true,Bool.and_true,Bool.eq_iff_iff]
 simp only [Bool.or_eq_true,Bool.and_eq_true,decide_eq_true_eq]
 constructor
 .rintro ((⟨h1,h2⟩ | ⟨h1,h2⟩) | h)
  .exact ⟨h1,.inl (.inl h2)⟩
  .exact ⟨h1,.inr h2⟩
  .subst h;exact ⟨hn,.inl (.inr rfl)⟩
 .rintro ⟨h1,(h2 | h2) | h2⟩
  .exact .inl (.inl ⟨h1,h2⟩)
  .exact .inr h2.symm
  .exact .inl (.inr ⟨h1,h2⟩)
theorem Ahz {n:Nat} (hn:n<=64) (p:Nat->Bool):Ay (BS fun b=>decide (b < n) && p b)=nI ((List.range n).filter p):=by
 unfold Ay nI
 congr 1
 unfold Ca
 have e:64=n+(64 - n):=by omega
 have h0:∀ k,(List.range (n+k)).filter (fun i=>decide (i < n) && p i)=(List.range n).filter p:=by
  intro k
  induction k with
  | zero=>
   rw [Nat.add_zero]
   exact List.filter_congr fun i hi=>by rw [decide_eq_true (List.mem_range.1 hi),Bool.true_and]
  | succ k ih =>
   rw [<- Nat.add_assoc,range_succ,filter_append,ih,List.filter_cons_of_neg (by rw [decide_eq_false (by omega)];simp),List.filter_nil,append_nil]
 rw [<- h0 (64 - n),<- e]
 refine List.filter_congr fun i hi=>?_
 rw [Au,decide_eq_true (List.mem_range.1 hi),Bool.and_true]
section
variable {V:At} (C:Aq V) {Q:VV->Prop}
include C
theorem A7O (t:A1) {n:Nat} (hn:n < t.nodes.length):VP V W7 [vD t,.i .i64 n] Q↔Q (.b true):=by
 refine Ae ?_
 rw [Ad C.c_z192.1 C.c_z192.2]
 have d1:decide (0<=(n:Int))=true:=decide_eq_true (by omega)
 have d2:decide ((n:Int) < (t.nodes.length:Int))=true:=decide_eq_true (by omega)
 simp only [A0b,go_sem,↓reduceIte,d1,d2,hn,length_map]
theorem A7M (t:A1) (i:Int) {n:Nat} (hn:n < t.nodes.length):VP V Qh [.i .i64 n,.fp (eT t) 0,.fp [.i .i64 i] 0] Q↔Q (.b (decide ((t.at n).thread=i) && (t.at n).fin)):=by
 refine Ae ?_
 rw [Ad C.c_z191.1 C.c_z191.2]
 cases d:decide ((t.at n).thread=i)<;>simp only [A0a,go_sem,↓reduceIte,hn,A7 hn,d,Bool.true_and,Bool.false_and]
theorem AaS (t:A1) (ht:A5 t) (i:Nat):VP V Vk [vT t,.i .i64 i] Q↔Q (lI (nI (Dw t i))):=by
 refine Ae ?_
 rw [Ad C.c_z145.1 C.c_z145.2]
 have s1:=fun (Q:VV->Prop)=>KI C t ht (Q:=Q)
 have d1:decide ((i:Int) < 0)=false:=decide_eq_false (by omega)
 have s2:=fun (Q:VV->Prop)=>Qw C t ht.n64 (gf:=Qh) (a:=[]) (c:=[.fp (eT t) 0,.fp [.i .i64 i] 0]) Fz.nil (fun _ _=>rfl) (fun n=>decide ((t.at n).thread=(i:Int)) && (t.at n).fin) (fun n hn=>(A7M C t i hn).2 rfl) (Q:=Q)
 have e:=Ahz ht.n64 fun n=>decide ((t.at n).thread=(i:Int)) && (t.at n).fin
 simp only [ZI,go_sem,↓reduceIte,s1,s2,d1,CZ C,e]
 rfl
theorem AcB (t:A1) (ht:A5 t) {n:Nat} (hn:n < t.nodes.length):VP V Vl [vT t,.i .i64 n] Q↔Q (vW (CC t n)):=by
 refine Ae ?_
 rw [Ad C.c_z146.1 C.c_z146.2]
 have s1:=fun (Q:VV->Prop)=>KI C t ht (Q:=Q)
 have s2:=fun (Q:VV->Prop)=>Qw C t ht.n64 (gf:=Qi) (fzD C t) Fz.nil (fun a=>decide ((t.at a).thread < 0)) (fun i hi=>(J1 C t hi).2 rfl) (Q:=Q)
 have s3:=fun (Q:VV->Prop)=>A7O C t hn (Q:=Q)
 have gO:(Afo t)[n]? = some (ovr t n):=Aar hn
 have lO:(Afo t).length=t.nodes.length:=by rw [Afo,length_map,List.length_range]
 simp only [ZJ,go_sem,↓reduceIte,s1,s2,s3,gO,lO,hn,C0 C,ApE ht hn]
end
theorem AfX {w S:BitVec 64}:decide (w &&& ~~~S=0#64)=decide (w ||| S=S):=by
 refine decide_eq_decide.2 ?_
 rw [Kh]
 constructor
 .intro h j hj hw
  have:=congrArg (fun x=>x.getLsbD j) h
  simp only [getLsbD_and,BitVec.getLsbD_not,BitVec.getLsbD_zero,hw,Bool.true_and,decide_eq_true hj] at this
  cases c:S.getLsbD j with
  | true=>rfl
  | false=>rw [c] at this;cases this
 .intro h
  apply B1
  intro j hj
  rw [getLsbD_and,BitVec.getLsbD_not,BitVec.getLsbD_zero,decide_eq_true hj,Bool.true_and]
  cases c:w.getLsbD j with
  | false=>rfl
  | true=>rw [h j hj c];rfl
def Ps (t:A1) (S:BitVec 64) (l:List Nat) (k:Nat):List (BitVec 64):=((l.take k).map (CC t)).filter fun w=>decide (w ||| S=S)
theorem Am7 {t:A1} {S:BitVec 64} {l:List Nat} {k:Nat} (hk:k < l.length) (h:decide (CC t l[k] ||| S=S)=true):Ps t S l (k+1)=Ps t S l k++[CC t l[k]]:=by
 rw [Ps,take_succ_eq_append_getElem hk,map_append,filter_append,map_cons,map_nil,List.filter_cons_of_pos (p:=fun w=>decide (w ||| S=S)) h,List.filter_nil];rfl
theorem Am6 {t:A1} {S:BitVec 64} {l:List Nat} {k:Nat} (hk:k < l.length) (h:decide (CC t l[k] ||| S=S)=false):Ps t S l (k+1)=Ps t S l k:=by
 rw [Ps,take_succ_eq_append_getElem hk,map_append,filter_append,map_cons,map_nil,List.filter_cons_of_neg (p:=fun w=>decide (w ||| S=S)) (by simp only [h];decide),List.filter_nil,append_nil];rfl
theorem AfU (t:A1) (S:BitVec 64) (l:List Nat) (k:Nat):(Ps t S l k).length<=k:=by
 refine le_trans (length_filter_le _ _) ?_
 rw [length_map,length_take];omega
theorem Zi (t:A1) (i:Nat):(Dw t i).length<=t.nodes.length:=by
 refine le_trans (length_filter_le _ _) ?_;simp
section
variable {V:At} (C:Aq V) {Q:VV->Prop}
include C
theorem A8D (t:A1) (ht:A5 t) (S:BitVec 64) (i:Nat):VP V Pg [.ag (eT t++[vW S]),.i .i64 i] Q↔Q (lW (Dl t S i)):=by
 refine Ae ?_
 rw [Ad C.c_z84.1 C.c_z84.2]
 have h9:=ht.n64
 have hE:=Zi t i
 have s1:=fun (Q:VV->Prop)=>AaS C t ht i (Q:=Q)
 have h1:∀ k (hk:k < (Dw t i).length),(Dw t i)[k] < t.nodes.length:=fun k hk=>(Gh.1 (List.getElem_mem hk)).1
 have h0:Ps t S (Dw t i) (Dw t i).length=Dl t S i:=by rw [Ps,take_length];rfl
 obtain ⟨E,h7⟩:∃ E,E=Dw t i:=⟨_,rfl⟩
 rw [<- h7] at hE s1 h1 h0
 have h4:=C2 E
 simp only [A9C,go_sem,↓reduceIte,s1,h4,cons_append,nil_append]
 refine Ag (by decide) E.length (by omega) (I:=fun k F h=>A4.tmp F 2 = .fp (eT t++[vW S]) 0/\A4.tmp F 12=lI (nI E)/\∃ L,L=Ps t S E k/\A4.tmp F 5 = .sl 0 L.length 0 L.length/\h=[some (AW AK 1 (L.map eW))]) ?_ ?_ 0 _ _ (by omega) ?_ ?_ ?_
 .rintro k F h hk h6 h5 ⟨p2,h3,L,hL,p5,rfl⟩
  have gE:(nI E)[k]? = some ((E[k]:Nat):Int):=by rw [nI,List.getElem?_map,getElem?_eq_getElem hk];rfl
  have hw:=fun (Q:VV->Prop)=>AcB C t ht (h1 k hk) (Q:=Q)
  have h2:=AfX (w:=CC t E[k]) (S:=S)
  have h8:=AfU t S E k
  have b1:(L.length+1) * 8<=Aa:=by rw [hL];unfold Aa;omega
  cases c:decide (CC t E[k] ||| S=S) with
  | false =>
   rw [c] at h2
   simp only [go_sem,↓reduceIte,h6,h5,p2,h3,p5,gE,hk,h4,hw,Hb C,h2,A0,cons_append,nil_append]
   exact ⟨L,by rw [Am6 hk c];exact hL,rfl,rfl⟩
  | true =>
   rw [c] at h2
   simp only [go_sem,↓reduceIte,h6,h5,p2,h3,p5,gE,hk,h4,hw,Hb C,h2,A0,b1,Acr,length_append,length_map,cons_append,nil_append]
   exact ⟨L++[CC t E[k]],by rw [Am7 hk c,hL],by simp,rfl⟩
 .rintro F h ⟨p2,h3,L,hL,p5,rfl⟩
  rw [h0] at hL
  subst hL
  simp only [go_sem,↓reduceIte,p2,h3,p5,length_map]
 .simp only [go_sem,↓reduceIte]
 .simp only [go_sem,↓reduceIte]
 .simp only [go_sem,↓reduceIte]
  exact ⟨[],rfl,rfl,rfl⟩
end
theorem Ab2 (t:A1) (ht:A5 t) (S:BitVec 64) (i:Nat):(Dl t S i).length<=64:=by
 have h1:=Zi t i
 have h2:=ht.n64
 rw [Dl]
 refine le_trans (length_filter_le _ _) ?_
 rw [length_map];omega
theorem A8j (t:A1) (ht:A5 t) (S:BitVec 64):∀ k,(BU t S k).length<=64 ^ k
 | 0=>by rw [BU];simp
 | k+1=>by
  rw [A6y,Nat.pow_succ]
  exact Nat.mul_le_mul (A8j t ht S k) (Ab2 t ht S k)
theorem Yu (t:A1) (ht:A5 t) (S:BitVec 64) {k:Nat} (hk:k<=t.regs.length):(BU t S k).length<=16777216:=by
 have h1:=A8j t ht S k
 have h2:=ht.r4
 have h3:64 ^ k<=64 ^ 4:=Nat.pow_le_pow_right (by decide) (by omega)
 exact le_trans h1 h3
def flW (O W:List (BitVec 64)) (k:Nat):List (BitVec 64):=(O.take k).flatMap fun s=>W.map fun w=>s ||| w
theorem A9R {O W:List (BitVec 64)} {k:Nat} (hk:k < O.length):flW O W (k+1)=flW O W k++W.map fun w=>O[k] ||| w:=by
 rw [flW,take_succ_eq_append_getElem hk,List.flatMap_append,List.flatMap_cons,List.flatMap_nil,append_nil];rfl
theorem Adi (O W:List (BitVec 64)) (k:Nat) (hW:W.length<=64) (hO:O.length<=16777216):(flW O W k).length<=16777216 * 64:=by
 have h0:∀ l:List (BitVec 64),(l.flatMap fun s=>W.map fun w=>s ||| w).length<=l.length * 64:=by
  intro l
  induction l with
  | nil=>simp
  | cons x l ih=>rw [List.flatMap_cons,length_append,length_map,List.length_cons,Nat.succ_mul];omega
 have h:=h0 (O.take k)
 rw [length_take] at h
 rw [flW]
 have:min k O.length * 64<=16777216 * 64:=Nat.mul_le_mul_right _ (by omega)
 omega
section
variable {V:At} (C:Aq V) {Q:VV->Prop}
include C
theorem Abx (t:A1) (ht:A5 t) (S:BitVec 64):VP V A5O [.ag (eT t++[vW S]),.f Pg [.ag (eT t++[vW S])] []] Q↔Q (lW (BU t S t.regs.length)):=by
 refine Ae ?_
 rw [Ad C.c_z83.1 C.c_z83.2]
 have hr:=ht.r4
 have ha:=fun (i:Nat) (Q:VV->Prop)=>A8D C t ht S i (Q:=Q)
 simp only [cons_append,nil_append] at ha ⊢
 simp only [A9B,go_sem,↓reduceIte,cons_append,nil_append,length_map]
 refine Ag (by decide) t.regs.length (by omega) (I:=fun i F h=>A4.tmp F 1 = .f Pg [.ag [.i .i64 t.vals,lS t.locs,.ls (t.regs.map JE),.ls (t.nodes.map eN),vW S]] []/\A4.tmp F 5=lW (BU t S i)/\h=[]) ?_ ?_ 0 _ _ (by omega) ?_ ?_ ?_
 .rintro i F h hi hc hb ⟨p1,p5,rfl⟩
  have hO:=Yu t ht S (k:=i) (by omega)
  have hW:=Ab2 t ht S i
  have hn:BU t S (i+1)=flW (BU t S i) (Dl t S i) (BU t S i).length:=by rw [flW,take_length,BU]
  rw [hn]
  obtain ⟨O,hf⟩:∃ O,O=BU t S i:=⟨_,rfl⟩
  obtain ⟨W,hg⟩:∃ W,W=Dl t S i:=⟨_,rfl⟩
  have h9:=fun (Q:VV->Prop)=>ha i Q
  rw [<- hf] at hO p5 ⊢
  rw [<- hg] at hW h9 ⊢
  simp only [go_sem,↓reduceIte,hc,hb,p1,p5,A0]
  refine Ag (by decide) O.length (by omega) (I:=fun k F h=>A4.tmp F 17 = .i .i64 i/\A4.tmp F 16 = .i .i64 t.regs.length/\A4.tmp F 6 = .i .i64 i/\A4.tmp F 1 = .f Pg [.ag [.i .i64 t.vals,lS t.locs,.ls (t.regs.map JE),.ls (t.nodes.map eN),vW S]] []/\A4.tmp F 20=lW O/\∃ L,L=flW O W k/\A4.tmp F 7 = .sl 0 L.length 0 L.length/\h=[some (AW AK 1 (L.map eW))]) ?_ ?_ 0 _ _ (by omega) ?_ ?_ ?_
  .rintro k F h hk he hd ⟨h1,h0,q6,q1,h2,L,hL,q7,rfl⟩
   have gO:O[k]? = some O[k]:=getElem?_eq_getElem hk
   obtain ⟨x,hx⟩:∃ x,x=O[k]:=⟨_,rfl⟩
   rw [<- hx] at gO
   have hm:=Adi O W k hW hO
   simp only [go_sem,↓reduceIte,he,hd,h1,h0,q6,q1,h2,q7,gO,hk,h9,A0]
   refine Ag (by decide) W.length (by omega) (I:=fun j F h=>A4.tmp F 22 = .i .i64 k/\A4.tmp F 21 = .i .i64 O.length/\A4.tmp F 17 = .i .i64 i/\A4.tmp F 16 = .i .i64 t.regs.length/\A4.tmp F 6 = .i .i64 i/\A4.tmp F 1 = .f Pg [.ag [.i .i64 t.vals,lS t.locs,.ls (t.regs.map JE),.ls (t.nodes.map eN),vW S]] []/\A4.tmp F 20=lW O/\A4.tmp F 9=vW x/\A4.tmp F 28=lW W/\∃ M,M=L++(W.take j).map (fun w=>x ||| w)/\A4.tmp F 7 = .sl 0 M.length 0 M.length/\h=[some (AW AK 1 (M.map eW))]) ?_ ?_ 0 _ _ (by omega) ?_ ?_ ?_
   .rintro j F h hj hl hh ⟨h7,h6,h4,h3,r6,r1,h5,r9,h8,M,hM,r7,rfl⟩
    have gW:W[j]? = some W[j]:=getElem?_eq_getElem hj
    have ho:M.length<=16777216 * 64+64:=by rw [hM,length_append,length_map,length_take,hL];omega
    have b1:(M.length+1) * 8<=Aa:=by unfold Aa;omega
    simp only [go_sem,↓reduceIte,hl,hh,h7,h6,h4,h3,r6,r1,h5,r9,h8,r7,gW,hj,A0,b1,Acr,length_append,length_map]
    exact ⟨M++[x ||| W[j]],by rw [hM,take_succ_eq_append_getElem hj,map_append,List.append_assoc];rfl,by simp,rfl⟩
   .rintro F h ⟨h7,h6,h4,h3,r6,r1,h5,r9,h8,M,hM,r7,rfl⟩
    simp only [go_sem,↓reduceIte,h7,h6,h4,h3,r6,r1,h5,r9,h8,r7]
    exact ⟨M,by rw [A9R hk,<- hx,hM,take_length,hL],rfl,rfl⟩
   .simp only [go_sem,↓reduceIte]
   .simp only [go_sem,↓reduceIte]
   .simp only [go_sem,↓reduceIte,he,hd,h1,h0,q6,q1,h2]
    exact ⟨L,by simp,q7,rfl⟩
  .rintro F h ⟨h1,h0,q6,q1,h2,L,hL,q7,rfl⟩
   subst hL
   simp only [go_sem,↓reduceIte,h1,h0,q6,q1,h2,q7,length_map]
  .simp only [go_sem,↓reduceIte]
  .simp only [go_sem,↓reduceIte]
  .simp only [go_sem,↓reduceIte,hc,hb,p1]
   exact ⟨[],rfl,rfl,rfl⟩
 .rintro F h ⟨p1,p5,rfl⟩
  simp only [go_sem,↓reduceIte,p1,p5]
 .simp only [go_sem,↓reduceIte]
 .simp only [go_sem,↓reduceIte]
 .simp only [go_sem,↓reduceIte]
  rfl
end
abbrev lLI (l:List (List Int)):VV:=.ls (l.map Hv)
def tkO (t:A1) (S:BitVec 64):Option VO:=some ⟨A6p,0,0,false,[[.i .i64 t.vals,lS t.locs,.ls (t.regs.map JE),.ls (t.nodes.map eN),vW S]]⟩
def Ei (t:A1) (s:A6):List (List Int):=(BU t (DH t s) t.regs.length).map Ay
theorem AdT (ys:List (List Int)) (y:List Int):ys.map Hv++[[lI y]]=(ys++[y]).map Hv:=by simp
section
variable {V:At} (C:Aq V) {Q:VV->Prop}
include C
theorem ED (t:A1) (ht:A5 t) (s:A6) (hs:DL s) (hf:AG t s):VP V R5 [vT t,Dy s] Q↔Q (lLI (Ei t s)):=by
 refine Ae ?_
 rw [Ad C.c_z34.1 C.c_z34.2]
 have h4:=AE.2 hf
 have ok:=GV hf ht
 have hX:=Yu t ht (DH t s) (Nat.le_refl _)
 have h2:=fun (Q:VV->Prop)=>K2 C t ht s hs hf ok (Q:=Q)
 have h0:=fun (Q:VV->Prop)=>Abx C t ht (DH t s) (Q:=Q)
 unfold Ei
 obtain ⟨S,hS⟩:∃ S,S=DH t s:=⟨_,rfl⟩
 rw [<- hS] at hX h2 h0 ⊢
 obtain ⟨X,h3⟩:∃ X,X=BU t S t.regs.length:=⟨_,rfl⟩
 rw [<- h3] at hX h0 ⊢
 simp only [cons_append,nil_append] at h0
 simp only [A3o,go_sem,↓reduceIte,Dt C t ht s hs,h4,h2,h0,cons_append,nil_append,show min 4 5=4 from rfl,Nat.reduceAdd,Nat.reduceSub]
 refine Ag (by decide) X.length (by omega) (I:=fun k F h=>A4.tmp F 22=lW X/\∃ ys:List (List Int),ys=(X.take k).map Ay/\A4.tmp F 5 = .sl 0 ys.length 0 ys.length/\h=[some (AW D7 1 (ys.map Hv)),tkO t S]) ?_ ?_ 0 _ _ (by omega) ?_ ?_ ?_
 .rintro k F h hk h6 h5 ⟨h1,ys,hy,p5,rfl⟩
  have gX:X[k]? = some X[k]:=getElem?_eq_getElem hk
  have h7:ys.length<=16777216:=by rw [hy,length_map,length_take];omega
  have b1:(ys.length+1) * 24<=Aa:=by unfold Aa;omega
  simp only [go_sem,↓reduceIte,h6,h5,h1,p5,gX,hk,CZ C,b1,tkO,AdT,length_append,length_map,A0]
  exact ⟨ys++[Ay X[k]],by rw [hy,take_succ_eq_append_getElem hk,map_append];rfl,by simp,rfl⟩
 .rintro F h ⟨h1,ys,hy,p5,rfl⟩
  rw [take_length] at hy
  subst hy
  simp only [go_sem,↓reduceIte,h1,p5,tkO,length_map]
 .simp only [go_sem,↓reduceIte]
 .simp only [go_sem,↓reduceIte]
 .simp only [go_sem,↓reduceIte,tkO]
  exact ⟨[],rfl,rfl,rfl⟩
theorem A8C (t:A1) (ht:A5 t) (s:A6) (hs:DL s) (hf:Bd t s=false):VP V R5 [vT t,Dy s] Q↔Q (.ls []):=by
 refine Ae ?_
 rw [Ad C.c_z34.1 C.c_z34.2]
 simp only [A3o,go_sem,↓reduceIte,Dt C t ht s hs,hf]
theorem A6J (t:A1) (ht:A5 t) (s:A6) (hs:DL s) (hf:AG t s):VP V A5m [vT t,Dy s] Q↔Q (.b (decide ((0:Int) < ((Ei t s).length:Int)))):=by
 refine Ae ?_
 rw [Ad C.c_z36.1 C.c_z36.2]
 have h:=fun (Q:VV->Prop)=>ED C t ht s hs hf (Q:=Q)
 simp only [A94,go_sem,↓reduceIte,h]
end
def A8I (t:A1) (i:Nat) (k:Nat):List Nat:=(List.range k).filter fun n=>decide ((t.at n).thread=(i:Int)) && (t.at n).fin
theorem Any {t:A1} {i k:Nat} (h:(decide ((t.at k).thread=(i:Int)) && (t.at k).fin)=true):A8I t i (k+1)=A8I t i k++[k]:=by
 rw [A8I,range_succ,filter_append,List.filter_cons_of_pos (p:=fun n=>decide ((t.at n).thread=(i:Int)) && (t.at n).fin) h,List.filter_nil];rfl
theorem Ah6 {t:A1} {i k:Nat} (h:(decide ((t.at k).thread=(i:Int)) && (t.at k).fin)=false):A8I t i (k+1)=A8I t i k:=by
 rw [A8I,range_succ,filter_append,List.filter_cons_of_neg (p:=fun n=>decide ((t.at n).thread=(i:Int)) && (t.at n).fin) (by simp only [h];decide),List.filter_nil,append_nil];rfl
theorem Ah7 (t:A1) (i k:Nat):(A8I t i k).length<=k:=by
 refine le_trans (length_filter_le _ _) ?_;simp
theorem Aas (t:A1):Ds 0 (t.locs.length:Nat)=inW t:=by
 unfold Ds inW
 apply B1
 intro j hj
 rw [Au,Au]
 congr 1
 exact decide_eq_decide.2 (by omega)
section
variable {V:At} (C:Aq V) {Q:VV->Prop}
include C
theorem A7q (t:A1) (ht:A5 t) (i:Nat):VP V A5R [vT t,.i .i64 i] Q↔Q (lI (nI (Dw t i))):=by
 refine Ae ?_
 rw [Ad C.c_z87.1 C.c_z87.2]
 have h1:=ht.n64
 simp only [A9F,go_sem,↓reduceIte]
 refine Ab (by decide) t.nodes.length (by omega) (I:=fun k F h=>A4.tmp F 1 = .i .i64 i/\A4.tmp F 2 = .fp (eT t) 0/\∃ L,L=nI (A8I t i k)/\A4.tmp F 5 = .sl 0 L.length 0 L.length/\h=[some (AW AO 1 (L.map eI))]) ?_ ?_ ?_ 0 _ _ (Nat.zero_le _) ?_ ?_
 .rintro k F h hk p6 ⟨p1,p2,L,hL,p5,rfl⟩
  simp only [go_sem,↓reduceIte,p1,p2,p5,p6]
  exact ⟨L,hL,rfl,rfl⟩
 .rintro k F h hk p6 ⟨p1,p2,L,hL,p5,rfl⟩
  have h0:=Ah7 t i k
  have b1:(L.length+1) * 8<=Aa:=by rw [hL,C2];unfold Aa;omega
  cases d1:decide ((t.at k).thread=(i:Int)) with
  | false =>
   have e:=Ah6 (t:=t) (i:=i) (k:=k) (by rw [d1];rfl)
   simp only [go_sem,↓reduceIte,p1,p2,p5,p6,hk,A7 hk,d1,A0]
   exact ⟨L,by rw [e];exact hL,rfl,rfl⟩
  | true =>
  cases d2:(t.at k).fin with
  | false =>
   have e:=Ah6 (t:=t) (i:=i) (k:=k) (by rw [d1,d2];rfl)
   simp only [go_sem,↓reduceIte,p1,p2,p5,p6,hk,A7 hk,d1,d2,A0]
   exact ⟨L,by rw [e];exact hL,rfl,rfl⟩
  | true =>
   have e:=Any (t:=t) (i:=i) (k:=k) (by rw [d1,d2];rfl)
   simp only [go_sem,↓reduceIte,p1,p2,p5,p6,hk,A7 hk,d1,d2,A0,b1,Du,length_append,length_map]
   exact ⟨L++[(k:Int)],by rw [e,hL,YL],by simp,rfl⟩
 .rintro F h ⟨p1,p2,L,hL,p5,rfl⟩
  subst hL
  simp only [go_sem,↓reduceIte,p1,p2,p5,length_map]
  rfl
 .simp only [go_sem,↓reduceIte]
 .simp only [go_sem,↓reduceIte]
  exact ⟨[],rfl,rfl,rfl⟩
theorem Aax (t:A1) (ht:A5 t) {n:Nat} (hn:n < t.nodes.length):VP V A5S [vT t,.i .i64 n] Q↔Q (vW (CC t n)):=by
 refine Ae ?_
 rw [Ad C.c_z88.1 C.c_z88.2]
 have h0:=ht.n64
 have qN:=fun (Q:VV->Prop)=>AA C t n (Q:=Q)
 rw [BM hn] at qN
 simp only [A9G,go_sem,↓reduceIte,qN,HX C,Aas]
 unfold VL
 rw [A0]
 refine AT (M:=Nat) (I:=fun k F h=>A4.tmp F 2 = .fp (eT t) 0/\h=[]/\∃ (w:BitVec 64) (x:Int),A4.tmp F 5=vW w/\A4.tmp F 6 = .i .i64 x/\x < k/\x < t.nodes.length/\((x < 0/\w=CC t n)\/∃ m:Nat,x=m/\∀ j:Nat,j < 64->(CC t n).getLsbD j=(w.getLsbD j || decide (m=j) || (decide (j < t.nodes.length) && Aw t j m)))) (μ:=fun k=>k) ?_ (n+1) _ _ ?_
 .rintro k F h ⟨p2,rfl,w,x,p5,p6,h4,h5,hw⟩
  rcases hw with ⟨hx,rfl⟩ | ⟨m,rfl,hw⟩
  .have d0:decide (0<=x)=false:=decide_eq_false (by omega)
   simp only [AbZ,go_sem,↓reduceIte,p2,p5,p6,d0,A0]
  .have d0:decide (0<=(m:Int))=true:=decide_eq_true (by omega)
   have hm:m < t.nodes.length:=by omega
   simp only [AbZ,go_sem,↓reduceIte,p2,p5,p6,d0,hm,A7 hm,Bi C,A0]
   have h3:=ht.up m hm
   refine ⟨k - 1,by omega,w ||| C4 (m:Int),rfl,by omega,by omega,?_⟩
   rcases Int.lt_or_le (t.at m).up 0 with c | c
   .refine .inl ⟨c,?_⟩
    apply B1
    intro j hj
    rw [getLsbD_or,Rc hj,hw j hj]
    have:Aw t j m=false:=by
     unfold Aw
     rw [Dc ht.up j (by omega),if_pos c]
    rw [this,Bool.and_false,Bool.or_false]
   .obtain ⟨u,hu⟩:=Int.eq_ofNat_of_zero_le c
    refine .inr ⟨u,hu,fun j hj=>?_⟩
    rw [getLsbD_or,Rc hj,hw j hj,Dd ht.up hm hu]
    by_cases e:u=j
    .subst e
     have:u < t.nodes.length:=by omega
     simp [this]
    .rw [decide_eq_false e,Bool.false_or,Bool.or_false]
 .refine ⟨?_,?_,?_⟩
  .simp only [go_sem,↓reduceIte]
  .rfl
  .refine ⟨inW t,n,?_,?_,by omega,by omega,.inr ⟨n,rfl,fun j hj=>?_⟩⟩
   .simp only [go_sem,↓reduceIte]
   .simp only [go_sem,↓reduceIte]
   .rw [Bool.eq_iff_iff,D9 ht]
    simp only [Bool.or_eq_true,Bool.and_eq_true,decide_eq_true_eq,Ahr ht]
    have hl:=ht.first.1
    constructor
    .rintro ⟨h1,h2 | h2 | h2⟩
     .exact .inl (.inl ((ht.thr_iff h1).1 h2))
     .exact .inl (.inr h2.symm)
     .exact .inr ⟨h1,h2⟩
    .rintro ((h | h) | ⟨h1,h2⟩)
     .exact ⟨by omega,.inl ((ht.thr_iff (by omega)).2 h)⟩
     .subst h;exact ⟨hn,.inr (.inl rfl)⟩
     .exact ⟨h1,.inr (.inr h2)⟩
end
def Gy (t:A1) (s:A6) (E:List Nat) (k:Nat):List (BitVec 64):=((E.take k).filter (MJ t s)).map (CC t)
theorem AiS {t:A1} {s:A6} {E:List Nat} {k:Nat} (hk:k < E.length) (h:MJ t s E[k]=true):Gy t s E (k+1)=Gy t s E k++[CC t E[k]]:=by
 rw [Gy,take_succ_eq_append_getElem hk,filter_append,List.filter_cons_of_pos h,List.filter_nil,map_append];rfl
theorem AiR {t:A1} {s:A6} {E:List Nat} {k:Nat} (hk:k < E.length) (h:MJ t s E[k]=false):Gy t s E (k+1)=Gy t s E k:=by
 rw [Gy,take_succ_eq_append_getElem hk,filter_append,List.filter_cons_of_neg (by rw [h];decide),List.filter_nil,append_nil];rfl
theorem A2p (t:A1) (s:A6) (E:List Nat) (k:Nat):(Gy t s E k).length<=k:=by
 rw [Gy,length_map]
 refine le_trans (length_filter_le _ _) ?_
 rw [length_take];omega
theorem AcS (t:A1) (ht:A5 t) (s:A6) (hf:AG t s) {k:Nat} (hk:k<=t.regs.length):(NO t s k).length<=16777216:=by
 cases k with
 | zero=>rw [NO];simp
 | succ k=>rw [Abm ht hf];exact Yu t ht _ hk
section
variable {V:At} (C:Aq V) {Q:VV->Prop}
include C
theorem Pm (t:A1) (ht:A5 t) (s:A6) (hs:DL s) (hf:AG t s):VP V XQ [vT t,Dy s] Q↔Q (lLI (Ei t s)):=by
 refine Ae ?_
 rw [Ad C.c_z35.1 C.c_z35.2]
 have qd:=ht.n64
 have hr:=ht.r4
 have g1:=hs.has
 have q4:=AE.2 hf
 have qF:=fun (Q:VV->Prop)=>Bv C t ht s hs (Q:=Q)
 have qE:=fun (i:Nat) (Q:VV->Prop)=>A7q C t ht i (Q:=Q)
 have qO:=fun (Q:VV->Prop)=>NF C s.has (by omega) (Q:=Q)
 have q1:Ei t s=(NO t s t.regs.length).map Ay:=by rw [Ei,AgS ht hf]
 rw [q1]
 simp only [A3p,go_sem,↓reduceIte,qF,q4,HX C,Aas,length_map]
 refine Ab (by decide) t.regs.length (by omega) (I:=fun i F h=>A4.tmp F 2 = .fp (eT t) 0/\A4.tmp F 3 = .fp (Je s) 0/\A4.tmp F 5=lW (NO t s i)/\h=[]) ?_ ?_ ?_ 0 _ _ (Nat.zero_le _) ?_ ?_
 .rintro i F h hi p6 ⟨p2,p3,p5,rfl⟩
  simp only [go_sem,↓reduceIte,p6,p2,p3,p5,length_map]
 .rintro i F h hi p6 ⟨p2,p3,p5,rfl⟩
  have hO:=AcS t ht s hf (k:=i) (by omega)
  have hE:=Zi t i
  have hd:∀ k (hk:k < (Dw t i).length),(Dw t i)[k] < t.nodes.length:=fun k hk=>(Gh.1 (List.getElem_mem hk)).1
  have h3:Gy t s (Dw t i) (Dw t i).length=A2o t s i:=by rw [Gy,take_length];rfl
  have hh:(A2o t s i).length<=64:=by
   have:=A2p t s (Dw t i) (Dw t i).length
   rw [h3] at this;omega
  have hn:NO t s (i+1)=flW (NO t s i) (A2o t s i) (NO t s i).length:=by rw [flW,take_length,NO]
  have hu:=fun (Q:VV->Prop)=>qE i Q
  rw [hn]
  obtain ⟨O,hw⟩:∃ O,O=NO t s i:=⟨_,rfl⟩
  obtain ⟨W,hz⟩:∃ W,W=A2o t s i:=⟨_,rfl⟩
  obtain ⟨E,hv⟩:∃ E,E=Dw t i:=⟨_,rfl⟩
  rw [<- hw] at hO p5 ⊢
  rw [<- hv] at hE hd h3 hu
  rw [<- hz] at h3 hh ⊢
  have ho:=C2 E
  simp only [go_sem,↓reduceIte,p6,p2,p3,p5,hu,A0]
  refine Ab (by decide) O.length (by omega) (I:=fun k F h=>A4.tmp F 6 = .i .i64 i/\A4.tmp F 2 = .fp (eT t) 0/\A4.tmp F 3 = .fp (Je s) 0/\A4.tmp F 5=lW O/\A4.tmp F 7=lI (nI E)/\∃ L,L=flW O W k/\A4.tmp F 8 = .sl 0 L.length 0 L.length/\h=[some (AW AK 1 (L.map eW))]) ?_ ?_ ?_ 0 _ _ (Nat.zero_le _) ?_ ?_
  .rintro k F h hk q9 ⟨q6,q2,q3,q5,q7,L,hL,q8,rfl⟩
   simp only [go_sem,↓reduceIte,q9,q6,q2,q3,q5,q7,q8]
   exact ⟨L,hL,rfl,rfl⟩
  .rintro k F h hk q9 ⟨q6,q2,q3,q5,q7,L,hL,q8,rfl⟩
   have gO:O[k]? = some O[k]:=getElem?_eq_getElem hk
   obtain ⟨x,hx⟩:∃ x,x=O[k]:=⟨_,rfl⟩
   rw [<- hx] at gO
   have qe:=Adi O W k hh hO
   simp only [go_sem,↓reduceIte,q9,q6,q2,q3,q5,q7,q8,A0]
   refine Ab (by decide) E.length (by omega) (I:=fun j F h=>A4.tmp F 9 = .i .i64 k/\A4.tmp F 6 = .i .i64 i/\A4.tmp F 2 = .fp (eT t) 0/\A4.tmp F 3 = .fp (Je s) 0/\A4.tmp F 5=lW O/\A4.tmp F 7=lI (nI E)/\∃ M,M=L++(Gy t s E j).map (fun w=>x ||| w)/\A4.tmp F 8 = .sl 0 M.length 0 M.length/\h=[some (AW AK 1 (M.map eW))]) ?_ ?_ ?_ 0 _ _ (Nat.zero_le _) ?_ ?_
   .rintro j F h hj h5 ⟨r9,r6,r2,r3,r5,r7,M,hM,r8,rfl⟩
    simp only [go_sem,↓reduceIte,h5,r9,r6,r2,r3,r5,r7,r8,ho]
    exact ⟨M,hM,rfl,rfl⟩
   .rintro j F h hj h5 ⟨r9,r6,r2,r3,r5,r7,M,hM,r8,rfl⟩
    have gE:(nI E)[j]? = some ((E[j]:Nat):Int):=by rw [nI,List.getElem?_map,getElem?_eq_getElem hj];rfl
    have hl:=hd j hj
    have hp:=fun h=>AiS (t:=t) (s:=s) hj h
    have hq:=fun h=>AiR (t:=t) (s:=s) hj h
    have qg:=A2p t s E j
    obtain ⟨e,he⟩:∃ e,e=E[j]:=⟨_,rfl⟩
    rw [<- he] at gE hl hp hq
    have qW:=fun (Q:VV->Prop)=>Aax C t ht hl (Q:=Q)
    have qf:M.length<=16777216 * 64+64:=by rw [hM,length_append,length_map,hL];omega
    have b1:(M.length+1) * 8<=Aa:=by unfold Aa;omega
    have qa:=CO (CC t e)
    have h4:MJ t s e=(decide (CC t e ||| Cc s.has=Cc s.has) && (Ay (CC t e)).all fun j=>AU s.has j && Es t s j.toNat):=by
     rw [MJ]
     congr 1
     rw [Bool.eq_iff_iff,all_eq_true,all_eq_true]
     refine forall_congr' fun y=>forall_congr' fun hy=>?_
     cases c:AU s.has y with
     | false=>rfl
     | true =>
      obtain ⟨m,rfl,hm⟩:=A8 (hf.node _ (A9.1 c))
      rw [Int.toNat_natCast,A2n ht hf (A9.1 c)]
    obtain ⟨Y,hY⟩:∃ Y,Y=Ay (CC t e):=⟨_,rfl⟩
    obtain ⟨G,hG⟩:∃ G,G=decide (CC t e ||| Cc s.has=Cc s.has):=⟨_,rfl⟩
    have qI:=fun (Q:VV->Prop)=>D4 C (CC t e) (Cc s.has) (Q:=Q)
    have qL:=fun (Q:VV->Prop)=>MB C (CC t e) (Q:=Q)
    have qV:=fun (y:Int) (Q:VV->Prop)=>LP C t ht s hs hf y (Q:=Q)
    rw [<- hY] at qa h4 qL
    rw [<- hG] at h4 qI
    simp only [go_sem,↓reduceIte,h5,r9,r6,r2,r3,r5,r7,r8,gE,hj,ho,qW,qO,qI,qL,A0]
    unfold VL
    rw [A0]
    refine AT (M:=Nat) (I:=fun n F h=>n<=Y.length/\A4.tmp F 10 = .i .i64 j/\A4.tmp F 9 = .i .i64 k/\A4.tmp F 6 = .i .i64 i/\A4.tmp F 2 = .fp (eT t) 0/\A4.tmp F 3 = .fp (Je s) 0/\A4.tmp F 5=lW O/\A4.tmp F 7=lI (nI E)/\A4.tmp F 8 = .sl 0 M.length 0 M.length/\A4.tmp F 11=vW (CC t e)/\A4.tmp F 13=lI Y/\A4.tmp F 14 = .i .i64 n/\(∃ g:Bool,A4.tmp F 12 = .b g/\g=(G && (Y.take n).all fun y=>AU s.has y && Es t s y.toNat))/\h=[some (AW AK 1 (M.map eW))]) (μ:=fun n=>Y.length - n) ?_ 0 _ _ ⟨by omega,?_,?_,?_,?_,?_,?_,?_,?_,?_,?_,?_,?_,?_⟩
    .rintro n F h ⟨hn,h6,s9,s6,s2,s3,s5,s7,s8,h7,h9,ha,⟨g,h8,hg⟩,rfl⟩
     have w1:IntKind.i64.wrap ((n:Int)+1)=((n+1:Nat):Int):=by rw [Az (by omega) (by omega)];omega
     have qc:g=false->MJ t s e=false:=fun h=>by
      rw [h4]
      rw [h] at hg
      cases G with
      | false=>rfl
      | true =>
       rw [Bool.true_and] at hg ⊢
       rw [Bool.eq_false_iff]
       intro h1
       rw [all_eq_true] at h1
       rw [eq_comm,Bool.eq_false_iff] at hg
       exact hg (List.all_eq_true.2 fun y hy=>h1 y (List.mem_of_mem_take hy))
     have h0:MJ t s e=false->M=L++(Gy t s E (j+1)).map (fun w=>x ||| w):=fun h=>by rw [hq h];exact hM
     have hb:MJ t s e=true->M++[x ||| CC t e]=L++(Gy t s E (j+1)).map (fun w=>x ||| w):=fun h=>by rw [hp h,hM,map_append,List.append_assoc];rfl
     cases c:decide (n < Y.length) with
     | true =>
      have c':=of_decide_eq_true c
      cases g with
      | false =>
       simp only [A1d,go_sem,↓reduceIte,h6,s9,s6,s2,s3,s5,s7,s8,h7,h9,ha,h8,Int.ofNat_lt,c,A0]
       exact ⟨M,h0 (qc rfl),rfl,rfl⟩
      | true =>
       have gY:=Ar c'
       simp only [A1d,go_sem,↓reduceIte,h6,s9,s6,s2,s3,s5,s7,s8,h7,h9,ha,h8,Int.ofNat_lt,c,c',gY,qV,w1,A0]
       have e1:Y.getD n 0=Y[n]:=by rw [List.getD_eq_getElem?_getD,getElem?_eq_getElem c'];rfl
       refine ⟨n+1,by omega,by omega,rfl,?_⟩
       rw [take_succ_eq_append_getElem c',List.all_append,<- Bool.and_assoc,<- hg,Bool.true_and,e1]
       simp
     | false =>
      have qb:n=Y.length:=by have:=of_decide_eq_false c;omega
      rw [qb,take_length,<- h4] at hg
      cases g with
      | false =>
       simp only [A1d,go_sem,↓reduceIte,h6,s9,s6,s2,s3,s5,s7,s8,h7,h9,ha,h8,Int.ofNat_lt,c,A0]
       exact ⟨M,h0 hg.symm,rfl,rfl⟩
      | true =>
       simp only [A1d,go_sem,↓reduceIte,h6,s9,s6,s2,s3,s5,s7,s8,h7,h9,ha,h8,r9,Int.ofNat_lt,c,gO,hk,b1,Acr,length_append,length_map,A0]
       exact ⟨M++[x ||| CC t e],hb hg.symm,by simp,rfl⟩
    all_goals first | (simp only [go_sem,↓reduceIte,h5,r9,r6,r2,r3,r5,r7,r8];done) | exact ⟨G,by simp only [go_sem,↓reduceIte],by simp⟩ | rfl
   .rintro F h ⟨r9,r6,r2,r3,r5,r7,M,hM,r8,rfl⟩
    rw [h3] at hM
    simp only [go_sem,↓reduceIte,r9,r6,r2,r3,r5,r7,r8]
    exact ⟨M,by rw [A9R hk,<- hx,hM,hL],rfl,rfl⟩
   .simp only [go_sem,↓reduceIte]
   .simp only [go_sem,↓reduceIte,q9,q6,q2,q3,q5,q7]
    exact ⟨L,by simp [Gy],q8,rfl⟩
  .rintro F h ⟨q6,q2,q3,q5,q7,L,hL,q8,rfl⟩
   subst hL
   simp only [go_sem,↓reduceIte,q6,q2,q3,q5,q7,q8,length_map]
  .simp only [go_sem,↓reduceIte]
  .simp only [go_sem,↓reduceIte,p6,p2,p3,p5]
   exact ⟨[],rfl,rfl,rfl⟩
 .rintro F h ⟨p2,p3,p5,rfl⟩
  obtain ⟨X,hX⟩:∃ X,X=NO t s t.regs.length:=⟨_,rfl⟩
  have q0:=AcS t ht s hf (Nat.le_refl _)
  rw [<- hX] at p5 q0 ⊢
  simp only [go_sem,↓reduceIte,p2,p3,p5]
  refine Ab (by decide) X.length (by omega) (I:=fun k F h=>A4.tmp F 5=lW X/\∃ ys:List (List Int),ys=(X.take k).map Ay/\A4.tmp F 15 = .sl 0 ys.length 0 ys.length/\h=[some (AW D7 1 (ys.map Hv))]) ?_ ?_ ?_ 0 _ _ (Nat.zero_le _) ?_ ?_
  .rintro k F h hk hc ⟨p5,ys,hy,h2,rfl⟩
   simp only [go_sem,↓reduceIte,hc,p5,h2]
   exact ⟨ys,hy,rfl,rfl⟩
  .rintro k F h hk hc ⟨p5,ys,hy,h2,rfl⟩
   have gX:X[k]? = some X[k]:=getElem?_eq_getElem hk
   have qh:ys.length<=16777216:=by rw [hy,length_map,length_take];omega
   have b1:(ys.length+1) * 24<=Aa:=by unfold Aa;omega
   simp only [go_sem,↓reduceIte,hc,p5,h2,gX,hk,MB C,b1,AdT,length_append,length_map,A0]
   exact ⟨ys++[Ay X[k]],by rw [hy,take_succ_eq_append_getElem hk,map_append];rfl,by simp,rfl⟩
  .rintro F h ⟨p5,ys,hy,h2,rfl⟩
   rw [take_length] at hy
   subst hy
   simp only [go_sem,↓reduceIte,p5,h2,length_map]
  .simp only [go_sem,↓reduceIte]
  .simp only [go_sem,↓reduceIte]
   exact ⟨p5,[],rfl,rfl,rfl⟩
 .simp only [go_sem,↓reduceIte]
 .simp only [go_sem,↓reduceIte]
  rfl
end
end Go.AM
