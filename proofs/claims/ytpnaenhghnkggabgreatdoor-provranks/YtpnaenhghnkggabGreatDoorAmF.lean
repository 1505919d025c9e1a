/-
  Own work, part of the proof of these laws: runs that the kernel carries out; the machine of values over a program.
-/
import Derived.Test.YtpnaenhghnkggabGreatDoorAmE
import Derived.ChangeVars
import Derived.JoinedOf
import Derived.RowKit
set_option maxRecDepth 10000
set_option maxHeartbeats 64000000
set_option linter.unusedVariables false
set_option linter.unusedSimpArgs false
set_option linter.unusedSectionVars false
set_option linter.unnecessarySimpa false
open Bool (and_eq_true or_eq_true)
open Nat (eq_of_beq_eq_true)
namespace Go.AM
open Go
def eqI (a b:Int):Bool:=match a,b with
 | .ofNat a,.ofNat b=>Nat.beq a b
 | .negSucc a,.negSucc b=>Nat.beq a b
 | _,_=>false
theorem AhA {a b:Int} (h:eqI a b=true):a=b:=by
 cases a<;>cases b<;>simp only [eqI] at h
 .rw [eq_of_beq_eq_true h]
 .cases h
 .cases h
 .rw [eq_of_beq_eq_true h]
def eqK (a b:IntKind):Bool:=match a,b with
 | .i8,.i8 | .i16,.i16 | .i32,.i32 | .i64,.i64 | .u8,.u8 | .u16,.u16 | .u32,.u32 | .u64,.u64=>true
 | _,_=>false
theorem AhB {a b:IntKind} (h:eqK a b=true):a=b:=by
 cases a<;>cases b<;>first | rfl | cases h
def AdY (a b:List UInt8):Bool:=match a,b with
 | [],[]=>true
 | x::a,y::b=>Nat.beq x.toNat y.toNat && AdY a b
 | _,_=>false
theorem AdZ:∀ {a b:List UInt8},AdY a b=true->a=b:=by
 intro a
 induction a with
 | nil=>intro b h;cases b with
  | nil=>rfl
  | cons y b=>cases h
 | cons x a ih=>intro b h;cases b with
  | nil=>cases h
  | cons y b =>
   simp only [AdY,and_eq_true] at h
   grind [UInt8.toNat_inj,eq_of_beq_eq_true]
mutual
def YO:VV->VV->Bool
 | .b x,.b y=>(match x,y with | true,true=>true | false,false=>true | _,_=>false)
 | .i k n,.i k' n'=>eqK k k' && eqI n n'
 | .s x,.s y=>AdY x.data.toList y.data.toList
 | .nf,.nf=>true
 | .np,.np=>true
 | .nl,.nl=>true
 | .fp a c,.fp a' c'=>Nat.beq c c' && Nd a a'
 | .ls r,.ls r'=>A7y r r'
 | .f g a c,.f g' a' c'=>Nat.beq g g' && Nd a a' && Nd c c'
 | .ag a,.ag a'=>Nd a a'
 | .tu a,.tu a'=>Nd a a'
 | .p a b c d,.p a' b' c' d'=>Nat.beq a a' && Nat.beq b b' && Nat.beq c c' && Nat.beq d d'
 | .sl a b c d,.sl a' b' c' d'=>Nat.beq a a' && Nat.beq b b' && Nat.beq c c' && Nat.beq d d'
 | _,_=>false
def Nd:List VV->List VV->Bool
 | [],[]=>true
 | x::a,y::b=>YO x y && Nd a b
 | _,_=>false
def A7y:List (List VV)->List (List VV)->Bool
 | [],[]=>true
 | x::a,y::b=>Nd x y && A7y a b
 | _,_=>false
end
mutual
theorem A1I:∀ (a b:VV),YO a b=true->a=b
  | .b x, b, h => by cases b <;> simp only [YO] at h <;> first | cases h | skip
                     grind
  | .i k n, b, h => by cases b <;> simp only [YO] at h <;> first | cases h | skip
                       simp only [and_eq_true] at h
                       rw [AhB h.1,AhA h.2]
  | .s x, b, h => by cases b <;> simp only [YO] at h <;> first | cases h | skip
                     rename_i y
                     have:=AdZ h
                     obtain ⟨⟨x⟩⟩:=x;simp_all
  | .nf,b,h=>by grind [YO]
  | .np,b,h=>by grind [YO]
  | .nl,b,h=>by grind [YO]
  | .un,b,h=>by grind [YO]
  | .fp a c, b, h => by cases b <;> simp only [YO] at h <;> first | cases h | skip
                        rename_i a' c'
                        simp only [and_eq_true] at h
                        rw [eq_of_beq_eq_true h.1,Hd a a' h.2]
  | .ls r, b, h => by cases b <;> simp only [YO] at h <;> first | cases h | skip
                      rename_i r'
                      rw [A51 r r' h]
  | .f g a c, b, h => by cases b <;> simp only [YO] at h <;> first | cases h | skip
                         rename_i g' a' c'
                         simp only [and_eq_true] at h
                         rw [eq_of_beq_eq_true h.1.1,Hd a a' h.1.2,Hd c c' h.2]
  | .ag a, b, h => by cases b <;> simp only [YO] at h <;> first | cases h | skip
                      rename_i a';rw [Hd a a' h]
  | .tu a, b, h => by cases b <;> simp only [YO] at h <;> first | cases h | skip
                      rename_i a';rw [Hd a a' h]
  | .p _ _ _ _, b, h => by cases b <;> simp only [YO] at h <;> first | cases h | skip
                           simp_all
  | .sl _ _ _ _, b, h => by cases b <;> simp only [YO] at h <;> first | cases h | skip
                            simp_all
theorem Hd:∀ (a b:List VV),Nd a b=true->a=b
  | [],b,h=>by grind [Nd]
  | x::a,b,h=>by
    cases b with
    | nil=>simp only [Nd] at h;cases h
    | cons y b =>
      simp only [Nd,and_eq_true] at h
      rw [A1I x y h.1,Hd a b h.2]
theorem A51:∀ (a b:List (List VV)),A7y a b=true->a=b
  | [],b,h=>by grind [A7y]
  | x::a,b,h=>by
    cases b with
    | nil=>simp only [A7y] at h;cases h
    | cons y b =>
      simp only [A7y,and_eq_true] at h
      rw [Hd x y h.1,A51 a b h.2]
end
structure JH where
 g:Nat
 pa:List VV
 r:VV
abbrev KW:=List JH
def A4d (L:Nat):VH->VH->Bool
 | [],_=>true
 | _::h,o'::h'=>(match o' with | none=>true | some x=>x.rows.all (CF L)) && A4d L h h'
 | _::_,[]=>false
theorem A6D {L:Nat}:∀ {h h':VH},A4d L h h' = true->LY L h h':=by
 intro h
 induction h with
 | nil=>intro h' _;cases h'<;>trivial
 | cons o h ih =>
  intro h' e
  cases h' with
  | nil=>cases e
  | cons o' h' =>
   simp only [A4d,and_eq_true] at e
   refine ⟨.inr fun x hx=>?_,ih e.2⟩
   subst hx
   exact e.1
def Acg (L:Nat):VH->VH->Bool
 | o::h,o'::h'=>(match o' with | none=>false | some x=>!(x.rows.all (CF L)) && (match o with | none=>true | some y=>y.rows.all (CF L))) || Acg L h h'
 | [],_=>false
 | _::_,[]=>true
theorem Afp {L:Nat}:∀ {h h':VH},Acg L h h' = true->¬LY L h h':=by
 intro h
 induction h with
 | nil=>intro h' e;cases h'<;>cases e
 | cons o h ih =>
  intro h' e k
  cases h' with
  | nil=>exact k
  | cons o' h' =>
   simp only [Acg,or_eq_true] at e
   rcases e with e | e
   .cases o' with
    | none=>cases e
    | some x =>
     simp only [and_eq_true,Bool.not_eq_true'] at e
     rcases k.1 with k1 | k1
     .grind
     grind
   .exact ih e k.2
def Afd (x:Nat×Option Nat×Nat):JI->Bool
 | []=>false
 | y::l=>(Nat.beq x.1 y.1 && (match x.2.1,y.2.1 with | none,none=>true | some a,some b=>Nat.beq a b | _,_=>false) && Nat.beq x.2.2 y.2.2) || Afd x l
theorem Afe {x:Nat×Option Nat×Nat}:∀ {l:JI},Afd x l=true->x∈l:=by
 intro l
 induction l with
 | nil=>intro h;cases h
 | cons y l ih =>
  intro h
  simp only [Afd,or_eq_true,and_eq_true] at h
  grind [eq_of_beq_eq_true]
def Kx (F:A3) (h:VH) (L:JI):List Ay->Bool
 | []=>true
 | o::r=>(match Cp F o.g with
  | some false=>true
  | some true=>(match o.dst,o.op with
   | some d,.ld n (.t a)=>Afd (d,n,a) L || (CI (A3.tmp F d) && (match vld h n (A3.tmp F a) with | some v=>YO v (A3.tmp F d) | none=>false))
   | _,_=>false)
  | none=>false) && Kx F h L r
theorem A1d {F:A3} {h:VH} {L:JI}:∀ {l:List Ay},Kx F h L l=true->BV F h L l:=by
 intro l
 induction l with
 | nil=>intro _;trivial
 | cons o r ih =>
  intro e
  simp only [Kx,and_eq_true] at e
  refine ⟨?_,ih e.2⟩
  have e1:=e.1
  split at e1
  .rename_i hw;rw [hw];trivial
  .rename_i hw
   rw [hw]
   simp only
   split at e1
   .rename_i d n a h1 h2
    rw [h1,h2]
    simp only
    rw [or_eq_true] at e1
    rcases e1 with e1 | e1
    .exact .inl (Afe e1)
    .rw [and_eq_true] at e1
     grind [A1I]
   .cases e1
  .cases e1
abbrev RW:=EW->List VV->VH->KW->Option (VV×VH×KW)
abbrev EQ:=Nat->Option EW
def R9:List Nat->Bool
 | []=>true
 | x::l=>!(l.contains x) && R9 l
theorem A7U:∀ {l:List Nat},R9 l=true->l.Nodup:=by
 intro l
 induction l with
 | nil=>intro _;exact List.nodup_nil
 | cons x l ih =>
  simp_all [R9]
def AhS (O:KW) (g:Nat) (pa:List VV):Option (VV×KW):=match O with
 | []=>none
 | a::O'=>bif Nat.beq a.g g && Nd a.pa pa then some (a.r,O') else none
def Adf (Z:Nat×(List VV->Option VV)) (E EH:EQ) (run:RW) (m:Nat) (g:Nat) (args:List VV) (h:VH) (O:KW):Option (VV×VH×KW) :=
 match m with
 | 0=>(match G7 h args with
  | some (pa,ids)=>(match AhS O g pa with
   | some (r,O')=>some (r,bif scal r then h else Bt ids h,O')
   | none=>(match E g with
    | some vf=>(match run vf pa [] O with
     | some (v,h2,O')=>(match frz h2 dF v with
      | some (r,_)=>some (r,bif scal r then h else Bt ids h,O')
      | none=>none)
     | none=>none)
    | none=>bif Nat.beq g Z.1 then (match Z.2 pa with
      | some v=>bif scal v then some (v,h,O) else none
      | none=>none) else none))
  | none=>none)
 | 1=>(match E g with
  | some vf=>(match G7 h args with
   | some (pa,ids)=>(match run vf pa [] O with
    | some (v,h2,O')=>(match Bl h2 dF h.length v with
     | some (r,T)=>bif R9 T.moved && T.moved.all (fun id=>!(T.frozen.contains id)) then some (r,Bt ids h++T.objs,O') else none
     | none=>none)
    | none=>none)
   | none=>none)
  | none=>none)
 | 2=>(match EH g with
  | some vf=>run vf args h O
  | none=>none)
 | _=>(match EH g with
  | some vf=>(match run vf args h O with
   | some (v,h2,O')=>(match frz h2 dF v with
    | some (r,ids)=>bif A4d h.length h (Bt ids h2) then some (r,(Bt ids h2).take h.length,O') else none
    | none=>none)
   | none=>none)
  | none=>none)
def A76 (Z:Nat×(List VV->Option VV)) (E EH:EQ) (run:RW) (m:Nat) (op:Bi) (F:A3) (h:VH) (O:KW):Option (VV×VH×KW) :=
 match op with
 | .call f args=>match A3.ev F f with
  | .f g a c=>bif Nat.beq m 4 then none else Adf Z E EH run m g (a++args.map (A3.ev F)++c) h O
  | _=>none
 | op=>match D7 m op F h with
  | some (v,h')=>some (v,h',O)
  | none=>none
def Adi (Z:Nat×(List VV->Option VV)) (E EH:EQ) (m:Nat->Nat) (run:RW):List Ay->A3->VH->KW->Option (A3×VH×KW)
 | [],F,h,O=>some (F,h,O)
 | o::r,F,h,O=>match Cp F o.g with
  | some true=>(match A76 Z E EH run (DG m o.dst) o.op F h O with
   | some (v,h',O')=>Adi Z E EH m run r (BI F o.dst v) h' O'
   | none=>none)
  | some false=>Adi Z E EH m run r (BI F o.dst VV.nul) h O
  | none=>none
def RQ (Z:Nat×(List VV->Option VV)) (E EH:EQ) (m:Nat->Nat) (run:RW):List AB->JI->A3->VH->KW->Option (A3×VH×KW)
 | [],_,F,h,O=>some (F,h,O)
 | s::r,L,F,h,O=>match Cp F s.o.g with
  | some true=>(match A76 Z E EH run (DG m s.o.dst) s.o.op F h O with
   | some (v,h',O') =>
    bif Kx (BI F s.o.dst v) h' (D6 (DG m s.o.dst) s.o.dst s.o.op F h L) s.chk then
     RQ Z E EH m run r (D6 (DG m s.o.dst) s.o.dst s.o.op F h L) (BI F s.o.dst v) h' O'
    else none
   | none=>none)
  | some false=>RQ Z E EH m run r (Hc s.o.dst L) (BI F s.o.dst VV.nul) h O
  | none=>none
abbrev Ag1:=A1->A3->VH->KW->Option (Ex×A3×VH×KW)
def A8v (ex:(Nat->Nat)->Ag1):RW:=fun vf args h O =>
 match ex vf.m vf.af.body (Tm.ofList args) h O with
 | some (e,F',h',O')=>(match e with
  | .exit _=>none
  | _=>(match Cn F' h' vf.af.results with | some vs=>some (Lz vs,h',O') | none=>none))
 | none=>none
def CE (Z:Nat×(List VV->Option VV)) (E EH:EQ):Nat->(Nat->Nat)->Ag1
 | 0,_,_,_,_,_=>none
 | n+1,m,c,F,h,O =>
  match c with
  | .skip=>some (.norm,F,h,O)
  | .reg ops=>(match Adi Z E EH m (A8v (CE Z E EH n)) ops F h O with | some (F',h',O')=>some (.norm,F',h',O') | none=>none)
  | .dreg ops=>(match RQ Z E EH m (A8v (CE Z E EH n)) ops [] F h O with | some (F',h',O')=>some (.norm,F',h',O') | none=>none)
  | .seq a b=>(match CE Z E EH n m a F h O with
   | some (.norm,F',h',O')=>CE Z E EH n m b F' h' O'
   | r=>r)
  | .cond c a b=>(match A3.ev F c with
   | .b true=>CE Z E EH n m a F h O
   | .b false=>CE Z E EH n m b F h O
   | _=>none)
  | .block id c=>(match CE Z E EH n m c F h O with
   | some (.exit id',F',h',O')=>bif Nat.beq id' id then some (.norm,F',h',O') else some (.exit id',F',h',O')
   | r=>r)
  | .loop c=>(match CE Z E EH n m c F h O with
   | some (.norm,F',h',O')=>bif A4d h.length h h' then CE Z E EH n m (.loop c) (Ef h.length F') (h'.take h.length) O' else bif Acg h.length h h' then CE Z E EH n m (.loop c) F' h' O' else none
   | r=>r)
  | .exit id=>some (.exit id,F,h,O)
  | .ret=>some (.ret,F,h,O)
  | .fail=>none
section
variable (V:Am)
def D9 (O:KW):Prop:=∀ a∈O,VP V a.g a.pa fun r=>r=a.r
structure L7 (Z:Nat×(List VV->Option VV)) (E EH:EQ):Prop where
 fn:∀ g vf,E g=some vf->V.fn g=some vf
 ext:∀ g vf,E g=some vf->V.ext g=none
 ctz:V.ext Z.1=some Z.2
 fnH:∀ g vf,EH g=some vf->V.fnH g=some vf
def Qb (run:RW):Prop:=∀ vf args h O v h' O',run vf args h O=some (v,h',O')->D9 V O->Vb V vf args h (fun v1 h1=>v1=v/\h1=h')/\D9 V O'
variable {V}
theorem D9.nil:D9 V []:=fun _ h=>absurd h (List.not_mem_nil)
theorem D9.cons {g:Nat} {pa:List VV} {r:VV} {O:KW} (h:VP V g pa fun x=>x=r) (hO:D9 V O):D9 V (⟨g,pa,r⟩::O):=by
 intro a ha
 rcases List.mem_cons.1 ha with e | e
 .subst e;exact h
 .exact hO _ e
theorem Aeg {O:KW} {g:Nat} {pa:List VV} {r:VV} {O':KW} (e:AhS O g pa=some (r,O')) (hO:D9 V O):(VP V g pa fun x=>x=r)/\D9 V O':=by
 cases O with
 | nil=>cases e
 | cons a O1 =>
  simp only [AhS] at e
  cases hb:(Nat.beq a.g g && Nd a.pa pa) with
  | false=>rw [hb] at e;cases e
  | true =>
   rw [hb] at e
   simp only [cond_true,Option.some.injEq,Prod.mk.injEq] at e
   obtain ⟨rfl,rfl⟩:=e
   rw [and_eq_true] at hb
   have:=hO a List.mem_cons_self
   rw [eq_of_beq_eq_true hb.1,Hd _ _ hb.2] at this
   exact ⟨this,fun x hx=>hO x (List.mem_cons_of_mem _ hx)⟩
theorem Adg {Z:Nat×(List VV->Option VV)} {E EH:EQ} (hE:L7 V Z E EH) {run:RW} (hr:Qb V run) {m g:Nat} {args:List VV} {h:VH} {O:KW} {v:VV} {h':VH} {O':KW} (e:Adf Z E EH run m g args h O=some (v,h',O')) (hO:D9 V O):VC V m g args h (fun v1 h1=>v1=v/\h1=h')/\D9 V O':=by
 unfold Adf at e
 unfold VC
 split at e
 .split at e
  .rename_i pa ids hp
   split at e
   .rename_i r O1 hh
    cases e
    obtain ⟨q1,q2⟩:=Aeg hh hO
    grind
   .split at e
    .rename_i vf hf
     split at e
     .rename_i v2 h2 O2 hq
      split at e
      .rename_i r ids2 hz
       cases e
       obtain ⟨q1,q2⟩:=hr _ _ _ _ _ _ _ hq hO
       refine ⟨⟨pa,ids,hp,?_⟩,q2⟩
       unfold VP
       rw [hE.ext _ _ hf]
       refine ⟨vf,hE.fn _ _ hf,q1.mono ?_⟩
       grind
      .cases e
     .cases e
    .cases hb:Nat.beq g Z.1 with
     | false=>rw [hb] at e;cases e
     | true =>
      rw [hb] at e
      simp only [cond_true] at e
      split at e
      .rename_i v1 hv
       cases hs:scal v1 with
       | false=>rw [hs] at e;cases e
       | true =>
        rw [hs] at e
        simp only [cond_true,Option.some.injEq,Prod.mk.injEq] at e
        obtain ⟨rfl,rfl,rfl⟩:=e
        refine ⟨⟨pa,ids,hp,?_⟩,hO⟩
        unfold VP
        rw [eq_of_beq_eq_true hb,hE.ctz]
        grind
      .cases e
  .cases e
 .split at e
  .rename_i vf hf
   split at e
   .rename_i pa ids hp
    split at e
    .rename_i v2 h2 O2 hq
     split at e
     .rename_i r T hT
      cases hb:(R9 T.moved && T.moved.all (fun id=>!(T.frozen.contains id))) with
      | false=>rw [hb] at e;cases e
      | true =>
       rw [hb] at e
       simp only [cond_true,Option.some.injEq,Prod.mk.injEq] at e
       obtain ⟨rfl,rfl,rfl⟩:=e
       rw [and_eq_true] at hb
       obtain ⟨q1,q2⟩:=hr _ _ _ _ _ _ _ hq hO
       refine ⟨⟨pa,ids,hp,vf,hE.fn _ _ hf,q1.mono ?_⟩,q2⟩
       rintro _ _ ⟨rfl,rfl⟩
       refine ⟨_,T,hT,⟨A7U hb.1,fun id hid hc=>?_⟩,rfl,rfl⟩
       grind
     .cases e
    .cases e
   .cases e
  .cases e
 .split at e
  .rename_i vf hf
   obtain ⟨q1,q2⟩:=hr _ _ _ _ _ _ _ e hO
   exact ⟨⟨vf,hE.fnH _ _ hf,q1⟩,q2⟩
  .cases e
 .rename_i m0 h0 h1' h2'
  split at e
  .rename_i vf hf
   split at e
   .rename_i v2 h2 O2 hq
    split at e
    .rename_i r ids hz
     cases hb:A4d h.length h (Bt ids h2) with
     | false=>rw [hb] at e;cases e
     | true =>
      rw [hb] at e
      simp only [cond_true,Option.some.injEq,Prod.mk.injEq] at e
      obtain ⟨rfl,rfl,rfl⟩:=e
      obtain ⟨q1,q2⟩:=hr _ _ _ _ _ _ _ hq hO
      have:Gh V g args h (fun v1 h1=>v1=r/\h1=(Bt ids h2).take h.length):=by
       refine ⟨vf,hE.fnH _ _ hf,q1.mono ?_⟩
       rintro _ _ ⟨rfl,rfl⟩
       exact ⟨_,ids,hz,A6D hb,rfl,rfl⟩
      grind
    .cases e
   .cases e
  .cases e
theorem A1c {Z:Nat×(List VV->Option VV)} {E EH:EQ} (hE:L7 V Z E EH) {run:RW} (hr:Qb V run) {m:Nat} {op:Bi} {F:A3} {h:VH} {O:KW} {v:VV} {h':VH} {O':KW} (e:A76 Z E EH run m op F h O=some (v,h',O')) (hO:D9 V O):Vo V m op F h (fun v1 h1=>v1=v/\h1=h')/\D9 V O':=by
 by_cases hc:∃ f args,op = .call f args
 .obtain ⟨f,args,rfl⟩:=hc
  simp only [A76] at e
  split at e
  .rename_i g a c hf
   cases hm:Nat.beq m 4 with
   | true=>rw [hm] at e;cases e
   | false =>
   rw [hm,cond_false] at e
   obtain ⟨q1,q2⟩:=Adg hE hr e hO
   exact ⟨Q9 hf q1 (fun h=>by rw [h] at hm;cases hm),q2⟩
  .cases e
 .have hc':∀ f args,op≠.call f args:=fun f args h=>hc ⟨f,args,h⟩
  have e':(match D7 m op F h with | some (v,h')=>some (v,h',O) | none=>none)=some (v,h',O'):=by
   cases op<;>first | exact e | exact absurd rfl (hc' _ _)
  split at e'
  .rename_i v1 h1 hv
   cases e'
   exact ⟨(Ag0 hc').2 ⟨_,_,hv,rfl,rfl⟩,hO⟩
  .cases e'
theorem AfX {Z:Nat×(List VV->Option VV)} {E EH:EQ} (hE:L7 V Z E EH) {run:RW} (hr:Qb V run) {m:Nat->Nat}:∀ {ops:List Ay} {F:A3} {h:VH} {O:KW} {F':A3} {h':VH} {O':KW},Adi Z E EH m run ops F h O=some (F',h',O')->D9 V O->Vr V m ops F h (fun F1 h1=>F1=F'/\h1=h')/\D9 V O':=by
 intro ops
 induction ops with
 | nil =>
  intro F h O F' h' O' e hO
  cases e
  exact ⟨Qa.2 ⟨rfl,rfl⟩,hO⟩
 | cons o r ih =>
  intro F h O F' h' O' e hO
  simp only [Adi] at e
  split at e
  .rename_i hw
   split at e
   .rename_i v h1 O1 hv
    obtain ⟨q1,q2⟩:=A1c hE hr hv hO
    obtain ⟨q3,q4⟩:=ih e q2
    refine ⟨?_,q4⟩
    rw [Kz,hw]
    obtain ⟨n,v2,h2,e2,rfl,rfl⟩:=q1
    exact ⟨n,_,_,e2,q3⟩
   .cases e
  .grind [Kz]
  .cases e
theorem A8w {Z:Nat×(List VV->Option VV)} {E EH:EQ} (hE:L7 V Z E EH) {run:RW} (hr:Qb V run) {m:Nat->Nat}:∀ {ops:List AB} {L:JI} {F:A3} {h:VH} {O:KW} {F':A3} {h':VH} {O':KW},RQ Z E EH m run ops L F h O=some (F',h',O')->D9 V O->Vs V m ops L F h (fun F1 h1=>F1=F'/\h1=h')/\D9 V O':=by
 intro ops
 induction ops with
 | nil =>
  intro L F h O F' h' O' e hO
  cases e
  exact ⟨A8K.2 ⟨rfl,rfl⟩,hO⟩
 | cons o r ih =>
  intro L F h O F' h' O' e hO
  simp only [RQ] at e
  split at e
  .rename_i hw
   split at e
   .rename_i v h1 O1 hv
    cases hb:Kx (BI F o.o.dst v) h1 (D6 (DG m o.o.dst) o.o.dst o.o.op F h L) o.chk with
    | false=>rw [hb] at e;cases e
    | true =>
     rw [hb] at e
     obtain ⟨q1,q2⟩:=A1c hE hr hv hO
     obtain ⟨q3,q4⟩:=ih e q2
     refine ⟨?_,q4⟩
     rw [Pz,hw]
     obtain ⟨n,v2,h2,e2,rfl,rfl⟩:=q1
     exact ⟨n,_,_,e2,A1d hb,q3⟩
   .cases e
  .grind [Pz]
  .cases e
theorem Dp {m:Nat->Nat} {c:A1} {F:A3} {h:VH} {e:Ex} {F':A3} {h':VH} (k:Vc V m c F h fun e1 F1 h1=>e1=e/\F1=F'/\h1=h'):∃ n,Ax V n m c F h=some (e,F',h'):=by
 obtain ⟨n,e1,F1,h1,q,rfl,rfl,rfl⟩:=k
 exact ⟨n,q⟩
theorem Adh {Z:Nat×(List VV->Option VV)} {E EH:EQ} (hE:L7 V Z E EH):∀ (n:Nat),(∀ {m:Nat->Nat} {c:A1} {F:A3} {h:VH} {O:KW} {e:Ex} {F':A3} {h':VH} {O':KW},CE Z E EH n m c F h O=some (e,F',h',O')->D9 V O->Vc V m c F h (fun e1 F1 h1=>e1=e/\F1=F'/\h1=h')/\D9 V O')/\Qb V (A8v (CE Z E EH n)):=by
 intro n
 induction n with
 | zero =>
  refine ⟨fun e=>by simp [CE] at e,fun vf args h O v h' O' e=>by simp [A8v,CE] at e⟩
 | succ n ih =>
  obtain ⟨ih,hR⟩:=ih
  have H:∀ {m:Nat->Nat} {c:A1} {F:A3} {h:VH} {O:KW} {e:Ex} {F':A3} {h':VH} {O':KW},CE Z E EH (n+1) m c F h O=some (e,F',h',O')->D9 V O->Vc V m c F h (fun e1 F1 h1=>e1=e/\F1=F'/\h1=h')/\D9 V O':=by
   intro m c F h O e F' h' O' k hO
   cases c with
   | skip=>simp only [CE,Option.some.injEq,Prod.mk.injEq] at k;obtain ⟨rfl,rfl,rfl,rfl⟩:=k;exact ⟨⟨1,_,_,_,rfl,rfl,rfl,rfl⟩,hO⟩
   | exit id=>simp only [CE,Option.some.injEq,Prod.mk.injEq] at k;obtain ⟨rfl,rfl,rfl,rfl⟩:=k;exact ⟨⟨1,_,_,_,rfl,rfl,rfl,rfl⟩,hO⟩
   | ret=>simp only [CE,Option.some.injEq,Prod.mk.injEq] at k;obtain ⟨rfl,rfl,rfl,rfl⟩:=k;exact ⟨⟨1,_,_,_,rfl,rfl,rfl,rfl⟩,hO⟩
   | fail=>simp [CE] at k
   | reg ops =>
    simp only [CE] at k
    split at k
    .rename_i F1 h1 O1 hr
     cases k
     obtain ⟨⟨j,F2,h2,e2,rfl,rfl⟩,q2⟩:=AfX hE hR hr hO
     exact ⟨⟨j+1,.norm,_,_,by simp only [Ax,e2],rfl,rfl,rfl⟩,q2⟩
    .cases k
   | dreg ops =>
    simp only [CE] at k
    split at k
    .rename_i F1 h1 O1 hr
     cases k
     obtain ⟨⟨j,F2,h2,e2,rfl,rfl⟩,q2⟩:=A8w hE hR hr hO
     exact ⟨⟨j+1,.norm,_,_,by simp only [Ax,e2],rfl,rfl,rfl⟩,q2⟩
    .cases k
   | seq a b =>
    simp only [CE] at k
    cases ha:CE Z E EH n m a F h O with
    | none=>rw [ha] at k;cases k
    | some y =>
     obtain ⟨e1,F1,h1,O1⟩:=y
     rw [ha] at k
     obtain ⟨q1,q2⟩:=ih ha hO
     obtain ⟨j,q1⟩:=Dp q1
     cases e1 with
     | norm =>
      obtain ⟨q3,q4⟩:=ih k q2
      obtain ⟨i,q3⟩:=Dp q3
      refine ⟨⟨max j i+1,e,F',h',?_,rfl,rfl,rfl⟩,q4⟩
      grind [Ax,CH,Nat.le_max_right]
     | exit id=>cases k;exact ⟨⟨j+1,_,_,_,by simp only [Ax,q1],rfl,rfl,rfl⟩,q2⟩
     | ret=>cases k;exact ⟨⟨j+1,_,_,_,by simp only [Ax,q1],rfl,rfl,rfl⟩,q2⟩
   | cond x a b =>
    simp only [CE] at k
    split at k
    .rename_i hx
     obtain ⟨q1,q2⟩:=ih k hO
     obtain ⟨j,q1⟩:=Dp q1
     exact ⟨⟨j+1,_,_,_,by simp only [Ax,hx];exact q1,rfl,rfl,rfl⟩,q2⟩
    .rename_i hx
     obtain ⟨q1,q2⟩:=ih k hO
     obtain ⟨j,q1⟩:=Dp q1
     exact ⟨⟨j+1,_,_,_,by simp only [Ax,hx];exact q1,rfl,rfl,rfl⟩,q2⟩
    .cases k
   | block id c =>
    simp only [CE] at k
    cases ha:CE Z E EH n m c F h O with
    | none=>rw [ha] at k;cases k
    | some y =>
     obtain ⟨e1,F1,h1,O1⟩:=y
     rw [ha] at k
     obtain ⟨q1,q2⟩:=ih ha hO
     obtain ⟨j,q1⟩:=Dp q1
     cases e1 with
     | norm=>cases k;exact ⟨⟨j+1,_,_,_,by simp only [Ax,q1],rfl,rfl,rfl⟩,q2⟩
     | ret=>cases k;exact ⟨⟨j+1,_,_,_,by simp only [Ax,q1],rfl,rfl,rfl⟩,q2⟩
     | exit id' =>
      simp only at k
      cases hb:Nat.beq id' id with
      | true=>rw [hb] at k;cases k;exact ⟨⟨j+1,_,_,_,by simp only [Ax,q1,hb,cond_true],rfl,rfl,rfl⟩,q2⟩
      | false=>rw [hb] at k;cases k;exact ⟨⟨j+1,_,_,_,by simp only [Ax,q1,hb,cond_false],rfl,rfl,rfl⟩,q2⟩
   | loop c =>
    simp only [CE] at k
    cases ha:CE Z E EH n m c F h O with
    | none=>rw [ha] at k;cases k
    | some y =>
     obtain ⟨e1,F1,h1,O1⟩:=y
     rw [ha] at k
     obtain ⟨q1,q2⟩:=ih ha hO
     obtain ⟨j,q1⟩:=Dp q1
     cases e1 with
     | norm =>
      simp only at k
      cases hb:A4d h.length h h1 with
      | false =>
       rw [hb] at k
       simp only [cond_false] at k
       cases hb2:Acg h.length h h1 with
       | false=>rw [hb2] at k;cases k
       | true =>
        rw [hb2] at k
        obtain ⟨q3,q4⟩:=ih k q2
        obtain ⟨i,q3⟩:=Dp q3
        refine ⟨⟨max j i+1,e,F',h',?_,rfl,rfl,rfl⟩,q4⟩
        simp only [Ax,CH (Nat.le_max_left j i) q1]
        rw [if_neg (Afp hb2)]
        exact CH (Nat.le_max_right j i) q3
      | true =>
       rw [hb] at k
       obtain ⟨q3,q4⟩:=ih k q2
       obtain ⟨i,q3⟩:=Dp q3
       refine ⟨⟨max j i+1,e,F',h',?_,rfl,rfl,rfl⟩,q4⟩
       simp only [Ax,CH (Nat.le_max_left j i) q1]
       rw [if_pos (A6D hb)]
       exact CH (Nat.le_max_right j i) q3
     | exit id=>cases k;exact ⟨⟨j+1,_,_,_,by simp only [Ax,q1],rfl,rfl,rfl⟩,q2⟩
     | ret=>cases k;exact ⟨⟨j+1,_,_,_,by simp only [Ax,q1],rfl,rfl,rfl⟩,q2⟩
  refine ⟨H,?_⟩
  intro vf args h O v h' O' e hO
  unfold A8v at e
  split at e
  .rename_i e1 F1 h1 O1 hr
   obtain ⟨q1,q2⟩:=H hr hO
   obtain ⟨j,q1⟩:=Dp q1
   cases e1 with
   | exit id=>cases e
   | norm =>
    simp only at e
    split at e
    .rename_i vs hvs;cases e;exact ⟨⟨j,_,_,by simp only [GU,q1,hvs],rfl,rfl⟩,q2⟩
    .cases e
   | ret =>
    simp only at e
    split at e
    .rename_i vs hvs;cases e;exact ⟨⟨j,_,_,by simp only [GU,q1,hvs],rfl,rfl⟩,q2⟩
    .cases e
  .cases e
def YN (Z:Nat×(List VV->Option VV)) (E EH:EQ) (n:Nat) (vf:EW) (args:List VV) (O:KW) (r:VV):Bool :=
 match A8v (CE Z E EH n) vf args [] O with
 | some (v,h2,_)=>(match frz h2 dF v with
  | some (r',_)=>YO r' r
  | none=>false)
 | none=>false
theorem Z6 {Z:Nat×(List VV->Option VV)} {E EH:EQ} (hE:L7 V Z E EH) {g:Nat} {af:A4} {mm:Nat->Nat} {args:List VV} {O:KW} {r:VV} (n:Nat) (hx:V.ext g=none) (hf:V.fn g=some ⟨af,mm⟩) (hO:D9 V O) (h:YN Z E EH n ⟨af,mm⟩ args O r=true):VP V g args fun x=>x=r:=by
 unfold YN at h
 split at h
 .rename_i v h2 O1 hr
  split at h
  .rename_i r' ids hz
   have q:=((Adh hE n).2 _ _ _ _ _ _ _ hr hO).1
   unfold VP
   rw [hx]
   exact ⟨_,hf,q.mono fun v1 h1 ⟨e1,e2⟩=>⟨r',ids,by rw [e1,e2];exact hz,A1I _ _ h⟩⟩
  .cases h
 .cases h
end
end Go.AM
namespace Go.AM
def VA (V:Am) (a:JH):Prop:=VP V a.g a.pa fun x=>x=a.r
def sel (k:Nat) (a b:EQ):EQ:=fun g=>bif Nat.blt g k then a g else b g
def leaf (n:Nat) (vf:EW):EQ:=fun g=>bif Nat.beq g n then some vf else none
def A1j (V:Am) (E:EQ):Prop:=∀ g vf,E g=some vf->V.ext g=none/\V.fn g=some vf
def A1i (V:Am) (E:EQ):Prop:=∀ g vf,E g=some vf->V.fnH g=some vf
section
variable {V:Am}
theorem A1j.sel {k:Nat} {a b:EQ} (ha:A1j V a) (hb:A1j V b):A1j V (sel k a b):=by
 intro g vf e
 unfold AM.sel at e
 cases h:Nat.blt g k with
 | true=>rw [h] at e;exact ha _ _ e
 | false=>rw [h] at e;exact hb _ _ e
theorem A1i.sel {k:Nat} {a b:EQ} (ha:A1i V a) (hb:A1i V b):A1i V (sel k a b):=by
 intro g vf e
 unfold AM.sel at e
 cases h:Nat.blt g k with
 | true=>rw [h] at e;exact ha _ _ e
 | false=>rw [h] at e;exact hb _ _ e
theorem A1j.leaf {n:Nat} {vf:EW} (h:V.ext n=none/\V.fn n=some vf):A1j V (leaf n vf):=by
 intro g vf' e
 grind [AM.leaf,eq_of_beq_eq_true]
theorem A1i.leaf {n:Nat} {vf:EW} (h:V.fnH n=some vf):A1i V (leaf n vf):=by
 intro g vf' e
 grind [AM.leaf,eq_of_beq_eq_true]
theorem L7.of {Z:Nat×(List VV->Option VV)} {E EH:EQ} (h1:A1j V E) (h2:A1i V EH) (h3:V.ext Z.1=some Z.2):L7 V Z E EH:=⟨fun g vf e=>(h1 g vf e).2,fun g vf e=>(h1 g vf e).1,h3,h2⟩
theorem C5 {Z:Nat×(List VV->Option VV)} {E EH:EQ} (hE:L7 V Z E EH) {a:JH} {af:A4} {mm:Nat->Nat} (hx:V.ext a.g=none) (hf:V.fn a.g=some ⟨af,mm⟩) {O:KW} (hO:D9 V O) (h:YN Z E EH 5000 ⟨af,mm⟩ a.pa O a.r=true):VA V a:=Z6 hE 5000 hx hf hO h
end
end Go.AM
namespace Go.AM
open Go
def G4 (A:Do) (tz:Nat) (mu muH:Nat->Nat->Nat):Am where
 fn g:=match A.ext g with | some _=>none | none=>(A.fn g).map fun af=>⟨af,mu g⟩
 fnH g:=match A.ext g with | some _=>none | none=>(A.fn g).map fun af=>⟨af,muH g⟩
 ext g:=bif Nat.beq g tz then some A4C else none
theorem A4E {A:Do} {tz:Nat} {mu muH:Nat->Nat->Nat} (h:A.ext tz=some ctzX):Q7 (G4 A tz mu muH) A where
 fn g vf e:=by
  unfold G4 at e
  simp only at e
  cases hx:A.ext g with
  | some x=>rw [hx] at e;cases e
  | none =>
   rw [hx] at e
   simp only [Option.map_eq_some_iff] at e
   grind
 fnH g vf e:=by
  unfold G4 at e
  simp only at e
  cases hx:A.ext g with
  | some x=>rw [hx] at e;cases e
  | none =>
   rw [hx] at e
   simp only [Option.map_eq_some_iff] at e
   grind
 ext g x e:=by
  unfold G4 at e
  simp only at e
  cases hb:Nat.beq g tz with
  | false=>rw [hb] at e;cases e
  | true =>
   rw [hb] at e
   cases e
   rw [eq_of_beq_eq_true hb]
   refine ⟨_,h,?_⟩
   intro Z pa ws σ v hv hx hs
   obtain ⟨hl,hp⟩:=hv
   unfold A4C at hx
   split at hx
   .rename_i n
    split at hx
    .rename_i hn
     cases hx
     obtain ⟨w,rfl⟩:∃ w,ws=[w]:=by
      cases ws with
      | nil=>cases hl
      | cons w ws=>grind
     have hw:=hp 0 _ _ rfl rfl
     cases hw
     refine ⟨.i .i64 (AdR n.toNat:Nat),?_,?_⟩
     .unfold ctzX
      have h1:(ZW .u64 && Nat.blt n.toNat 18446744073709551616 && A5s n)=true:=by
       obtain ⟨m,rfl⟩:=Int.eq_ofNat_of_zero_le hn.1
       simp only [ZW,Bool.true_and,and_eq_true,Nat.blt_eq,Int.ofNat_eq_natCast,Int.toNat_natCast]
       exact ⟨by omega,rfl⟩
      simp only [h1,cond_true]
     .rw [A4Y _ (by omega)]
      exact .i _ _ _
    .cases hx
   .cases hx
theorem ArX {A:Do} {tz g:Nat} {mu muH:Nat->Nat->Nat} {af:A4} {m:Nat->Nat} (h:A.ext g=none/\A.fn g=some af) (hne:Nat.beq g tz=false) (hm:mu g=m):(G4 A tz mu muH).ext g=none/\(G4 A tz mu muH).fn g=some ⟨af,m⟩:=by
 simp_all [G4]
theorem ArY {A:Do} {tz g:Nat} {mu muH:Nat->Nat->Nat} {af:A4} {m:Nat->Nat} (h:A.ext g=none/\A.fn g=some af) (hm:muH g=m):(G4 A tz mu muH).fnH g=some ⟨af,m⟩:=by
 grind [G4]
theorem ArZ {A:Do} {tz:Nat} {mu muH:Nat->Nat->Nat}:(G4 A tz mu muH).ext tz=some A4C:=by
 simp_all [G4]
theorem Aea {h:VH} {d:Nat} {v:VV} {b:Bool} {ids:List Nat} (e:frz h d v=some (.b b,ids)):v = .b b:=by
 cases d with
 | zero=>cases e
 | succ d =>
  cases v with
  | b x=>cases e;rfl
  | p id ver r c =>
   grind [frz]
  | sl id ver off n =>
   simp only [frz] at e
   grind
  | f g a c =>
   grind [frz]
  | ag cs =>
   grind [frz]
  | tu cs =>
   grind [frz]
  | un=>cases e
  | i k n=>cases e
  | s x=>cases e
  | nf=>cases e
  | np=>cases e
  | nl=>cases e
  | fp cs c=>cases e
  | ls rows=>cases e
theorem Afa {V:Am} {A:Do} (fit:Q7 V A) {g:Nat} {pa:List VV} (hx:V.ext g=none) {b:Bool} (h:VP V g pa fun r=>r = .b b) {Z:BL} {ρ:B2} {σ:St} {ws:List AV} (H:HR Z ρ [] σ) (hv:Ck Z ρ pa ws):∃ N σ',call A N g ws σ=some (.b b,σ'):=by
 unfold VP at h
 rw [hx] at h
 obtain ⟨vf,h1,n,v,h2,h3,r,ids,h4,h5⟩:=h
 subst h5
 have hvb:v = .b b:=Aea h4
 subst hvb
 obtain ⟨N,w,σ',Z',ρ',k1,k2,k3,k4⟩:=AcJ (Ae5 fit n) _ _ _ _ _ h3 _ _ _ _ H hv
 obtain ⟨q1,q2⟩:=fit.fn _ _ h1
 cases k3
 exact ⟨N,σ',by rw [Em q1 q2];exact k1⟩
theorem hr0:HR (fun _=>none) ρ0 [] σ0 where
 nd id h:=A7H id
 zs id ob h:=by cases h
 live i o h:=by simp at h
 nils i o h:=by simp at h
 inj i j o o' rid e e' h:=by simp at h
 dom id ver x h:=by cases h
 rdom id ver rid e h:=by cases h
 vers i o ver x h:=by simp at h
end Go.AM
namespace Go.AM
open Go Go.Proofs Go.RowKit Go.Shelf
theorem Abp {α β:Type} {f:α->Option β}:∀ {l:List α} {xs:List β},l.mapM f=some xs->∀ (j:Nat) (a:α),l[j]? = some a->∃ y,f a=some y/\xs[j]? = some y:=by
 intro l
 induction l with
 | nil=>intro xs _ j a h;simp at h
 | cons b l ih =>
  intro xs h j a hj
  rw [List.mapM_cons] at h
  simp only [Option.bind_eq_bind,Option.bind_eq_some_iff,Option.pure_def,Option.some.injEq] at h
  obtain ⟨y,h1,ys,h2,rfl⟩:=h
  cases j with
  | zero=>simp only [List.getElem?_cons_zero,Option.some.injEq] at hj;subst hj;exact ⟨y,h1,rfl⟩
  | succ j=>simp only [List.getElem?_cons_succ] at hj ⊢;exact ih h2 j a hj
theorem ZV {H:Type} {enc:TypeId×Value->H} {P:Program} {w:World} {base:Nat} {sp:Nat->Bool} {held:Bool} {fuel:Nat} {t:TypeId} {k:IntKind} {c:Value} {y:DataW H×List MemPlace}
  (ht:P.underlying t=some (.int k)) (h:DataW.trod enc P w base sp held fuel t [c]=some y):∃ n,c = .int k n/\y=(.lit (.int k n),[]):=by
 cases fuel with
 | zero=>simp [DataW.trod] at h
 | succ fuel =>
  cases c<;>simp [DataW.trod,ht] at h
  rename_i k' n
  obtain ⟨⟨rfl,_⟩,rfl⟩:=h
  exact ⟨n,rfl,rfl⟩
theorem tab_of_laid {P:Program} {W:World} {nm:String} {g t e n:Nat} {tab:List Nat} (hg:P.globalNamed nm=some g) (ht:(P.globals[g]?).map (·.type)=some t) (hu:P.underlying t=some (.array n e)) (hc:P.cellsOf t=n) (hce:P.cellsOf e=1) (hue:P.underlying e=some (.int .u8)) (hn:tab.length=n)
  (h:laidMet P [(nm,.agg (tab.map fun (x:Nat)=>(DataW.lit (Lit.int .u8 (x:Int)):DataW Unit)))] W):TabAt g tab W:=by
 obtain ⟨ps,⟨g',t',cs,fuel,p,q,hg',ht',hvar,hd,_,_⟩,_⟩:=h
 obtain rfl:=Option.some.inj (hg.symm.trans hg')
 obtain rfl:=Option.some.inj (ht.symm.trans ht')
 intro j hj
 rw [World.var?_cell hg hvar j]
 cases fuel with
 | zero=>simp [DataW.trod] at hd
 | succ fuel =>
  simp only [DataW.trod,hu,hc,hce] at hd
  split at hd
  .rename_i hl
   simp only [Option.map_eq_some_iff] at hd
   obtain ⟨xs,hm,hx⟩:=hd
   simp only [Prod.mk.injEq,DataW.agg.injEq] at hx
   have hjn:j < n:=by omega
   obtain ⟨y,h1,h2⟩:=Abp hm j j (by simp [hjn])
   have hlen:j < cs.toList.length:=by omega
   have e1:((cs.toList.drop (j * 1)).take 1)=[cs.toList[j]]:=by
    rw [Nat.mul_one,List.drop_eq_getElem_cons hlen];rfl
   rw [e1] at h1
   obtain ⟨z,h3,h4⟩:=ZV hue h1
   have h5:(xs.map (·.1))[j]? = some (.lit (.int .u8 z)):=by rw [List.getElem?_map,h2,h4];rfl
   rw [hx.1,List.getElem?_map] at h5
   have h6:tab[j]? = some (tab.getD j 0):=by simp [hj]
   rw [h6] at h5
   simp only [Option.map_some,Option.some.injEq,DataW.lit.injEq,Lit.int.injEq,true_and] at h5
   have h7:cs[j]? = some cs.toList[j]:=by
    have hj2:j < cs.size:=by simpa using hlen
    rw [Array.getElem?_eq_getElem hj2];simp
   rw [h7,h3,h5]
  .cases hd
theorem AjD {W:World} {g:Nat} (h:TabAt g Lib.deBruijn64tab W):g < W.heap.size:=by
 have:=h 0 (by decide)
 apply Classical.byContradiction
 intro hg
 have hn:W.heap[g]? = none:=Array.getElem?_eq_none (by omega)
 simp only [World.cell?,hn] at this
 cases this
end Go.AM
