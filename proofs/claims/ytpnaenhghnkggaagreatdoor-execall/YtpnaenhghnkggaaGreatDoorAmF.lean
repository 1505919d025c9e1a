/-
  Own work, part of the proof of these laws: runs that the kernel carries out; the machine of values over a program.
-/
import Derived.Test.YtpnaenhghnkggaaGreatDoorAmE
import Derived.ChangeVars
import Derived.JoinedOf
import Derived.RowKit
set_option maxRecDepth 10000
set_option maxHeartbeats 64000000
set_option linter.unusedVariables false
set_option linter.unusedSimpArgs false
set_option linter.unusedSectionVars false
set_option linter.unnecessarySimpa false
open Bool (and_eq_true or_eq_true)
open Nat (eq_of_beq_eq_true)
namespace Go.AM
open Go
def eqI(a b:Int):Bool:=match a,b with
 |.ofNat a,.ofNat b=>Nat.beq a b
 |.negSucc a,.negSucc b=>Nat.beq a b
 |_,_=>false
theorem AjS{a b:Int}(h:eqI a b=true):a=b:=by
 cases a<;>cases b<;>simp only[eqI]at h
 .rw[eq_of_beq_eq_true h]
 .cases h
 .cases h
 .rw[eq_of_beq_eq_true h]
def eqK(a b:IntKind):Bool:=match a,b with
 |.i8,.i8|.i16,.i16|.i32,.i32|.i64,.i64|.u8,.u8|.u16,.u16|.u32,.u32|.u64,.u64=>true
 |_,_=>false
theorem AjT{a b:IntKind}(h:eqK a b=true):a=b:=by
 cases a<;>cases b<;>first|rfl|cases h
def AfL(a b:List UInt8):Bool:=match a,b with
 | [],[]=>true
 |x::a,y::b=>Nat.beq x.toNat y.toNat&&AfL a b
 |_,_=>false
theorem AfM:∀{a b:List UInt8},AfL a b=true->a=b:=by
 intro a
 induction a with
 |nil=>intro b h;cases b with
  |nil=>rfl
  |cons y b=>cases h
 |cons x a ih=>intro b h;cases b with
  |nil=>cases h
  |cons y b=>
   simp only[AfL,and_eq_true]at h
   grind[UInt8.toNat_inj,eq_of_beq_eq_true]
mutual
def ZN:VV->VV->Bool
 |.b x,.b y=>(match x,y with|true,true=>true|false,false=>true|_,_=>false)
 |.i k n,.i k' n'=>eqK k k'&&eqI n n'
 |.s x,.s y=>AfL x.data.toList y.data.toList
 |.nf,.nf=>true
 |.np,.np=>true
 |.nl,.nl=>true
 |.fp a c,.fp a' c'=>Nat.beq c c'&&N1 a a'
 |.ls r,.ls r'=>A9x r r'
 |.f g a c,.f g' a' c'=>Nat.beq g g'&&N1 a a'&&N1 c c'
 |.ag a,.ag a'=>N1 a a'
 |.tu a,.tu a'=>N1 a a'
 |.p a b c d,.p a' b' c' d'=>Nat.beq a a'&&Nat.beq b b'&&Nat.beq c c'&&Nat.beq d d'
 |.sl a b c d,.sl a' b' c' d'=>Nat.beq a a'&&Nat.beq b b'&&Nat.beq c c'&&Nat.beq d d'
 |_,_=>false
def N1:List VV->List VV->Bool
 | [],[]=>true
 |x::a,y::b=>ZN x y&&N1 a b
 |_,_=>false
def A9x:List (List VV)->List (List VV)->Bool
 | [],[]=>true
 |x::a,y::b=>N1 x y&&A9x a b
 |_,_=>false
end
mutual
theorem A2E:∀(a b:VV),ZN a b=true->a=b
  | .b x, b, h => by cases b <;> simp only [ZN] at h <;> first | cases h | skip
                     grind
  | .i k n, b, h => by cases b <;> simp only [ZN] at h <;> first | cases h | skip
                       simp only[and_eq_true]at h
                       rw[AjT h.1,AjS h.2]
  | .s x, b, h => by cases b <;> simp only [ZN] at h <;> first | cases h | skip
                     rename_i y
                     have:=AfM h
                     obtain⟨⟨x⟩⟩:=x;simp_all
  |.nf,b,h=>by grind[ZN]
  |.np,b,h=>by grind[ZN]
  |.nl,b,h=>by grind[ZN]
  |.un,b,h=>by grind[ZN]
  | .fp a c, b, h => by cases b <;> simp only [ZN] at h <;> first | cases h | skip
                        rename_i a' c'
                        simp only[and_eq_true]at h
                        rw[eq_of_beq_eq_true h.1,Hl a a' h.2]
  | .ls r, b, h => by cases b <;> simp only [ZN] at h <;> first | cases h | skip
                      rename_i r'
                      rw[A69 r r' h]
  | .f g a c, b, h => by cases b <;> simp only [ZN] at h <;> first | cases h | skip
                         rename_i g' a' c'
                         simp only[and_eq_true]at h
                         rw[eq_of_beq_eq_true h.1.1,Hl a a' h.1.2,Hl c c' h.2]
  | .ag a, b, h => by cases b <;> simp only [ZN] at h <;> first | cases h | skip
                      rename_i a';rw[Hl a a' h]
  | .tu a, b, h => by cases b <;> simp only [ZN] at h <;> first | cases h | skip
                      rename_i a';rw[Hl a a' h]
  | .p _ _ _ _, b, h => by cases b <;> simp only [ZN] at h <;> first | cases h | skip
                           simp_all
  | .sl _ _ _ _, b, h => by cases b <;> simp only [ZN] at h <;> first | cases h | skip
                            simp_all
theorem Hl:∀(a b:List VV),N1 a b=true->a=b
  | [],b,h=>by grind[N1]
  |x::a,b,h=>by
    cases b with
    |nil=>simp only[N1]at h;cases h
    |cons y b=>
      simp only[N1,and_eq_true]at h
      rw[A2E x y h.1,Hl a b h.2]
theorem A69:∀(a b:List (List VV)),A9x a b=true->a=b
  | [],b,h=>by grind[A9x]
  |x::a,b,h=>by
    cases b with
    |nil=>simp only[A9x]at h;cases h
    |cons y b=>
      simp only[A9x,and_eq_true]at h
      rw[Hl x y h.1,A69 a b h.2]
end
structure M3 where
 g:Nat
 pa:List VV
 r:VV
abbrev L5:=List M3
def A5o(L:Nat):VH->VH->Bool
 | [],_=>true
 |_::h,o'::h'=>(match o' with|none=>true|some x=>x.rows.all (CK L))&&A5o L h h'
 |_::_,[]=>false
theorem A8o{L:Nat}:∀{h h':VH},A5o L h h'=true->LT L h h':=by
 intro h
 induction h with
 |nil=>intro h' _;cases h'<;>trivial
 |cons o h ih=>
  intro h' e
  cases h' with
  |nil=>cases e
  |cons o' h'=>
   simp only[A5o,and_eq_true]at e
   refine⟨.inr fun x hx=>?_,ih e.2⟩
   subst hx
   exact e.1
def AdX(L:Nat):VH->VH->Bool
 |o::h,o'::h'=>(match o' with|none=>false|some x=>!(x.rows.all (CK L))&&(match o with|none=>true|some y=>y.rows.all (CK L)))||AdX L h h'
 | [],_=>false
 |_::_,[]=>true
theorem AhD{L:Nat}:∀{h h':VH},AdX L h h'=true->¬LT L h h':=by
 intro h
 induction h with
 |nil=>intro h' e;cases h'<;>cases e
 |cons o h ih=>
  intro h' e k
  cases h' with
  |nil=>exact k
  |cons o' h'=>
   simp only[AdX,or_eq_true]at e
   rcases e with e|e
   .cases o' with
    |none=>cases e
    |some x=>
     simp only[and_eq_true,Bool.not_eq_true']at e
     rcases k.1 with k1|k1
     .grind
     grind
   .exact ih e k.2
def Ahq(x:Nat×Option Nat×Nat):JP->Bool
 | []=>false
 |y::l=>(Nat.beq x.1 y.1&&(match x.2.1,y.2.1 with|none,none=>true|some a,some b=>Nat.beq a b|_,_=>false)&&Nat.beq x.2.2 y.2.2)||Ahq x l
theorem Ahr{x:Nat×Option Nat×Nat}:∀{l:JP},Ahq x l=true->x∈l:=by
 intro l
 induction l with
 |nil=>intro h;cases h
 |cons y l ih=>
  intro h
  simp only[Ahq,or_eq_true,and_eq_true]at h
  grind[eq_of_beq_eq_true]
def KA(F:A3)(h:VH)(L:JP):List Ay->Bool
 | []=>true
 |o::r=>(match Cv F o.g with
  |some false=>true
  |some true=>(match o.dst,o.op with
   |some d,.ld n (.t a)=>Ahq (d,n,a) L||(CJ (A3.tmp F d)&&(match vld h n (A3.tmp F a)with|some v=>ZN v (A3.tmp F d)|none=>false))
   |_,_=>false)
  |none=>false)&&KA F h L r
theorem A2a{F:A3}{h:VH}{L:JP}:∀{l:List Ay},KA F h L l=true->C3 F h L l:=by
 intro l
 induction l with
 |nil=>intro _;trivial
 |cons o r ih=>
  intro e
  simp only[KA,and_eq_true]at e
  refine⟨?_,ih e.2⟩
  have e1:=e.1
  split at e1
  .rename_i hw;rw[hw];trivial
  .rename_i hw
   rw[hw]
   simp only
   split at e1
   .rename_i d n a h1 h2
    rw[h1,h2]
    simp only
    rw[or_eq_true]at e1
    rcases e1 with e1|e1
    .exact .inl (Ahr e1)
    .rw[and_eq_true]at e1
     grind[A2E]
   .cases e1
  .cases e1
abbrev Sn:=Gd->List VV->VH->L5->Option (VV×VH×L5)
abbrev G5:=Nat->Option Gd
def Rv:List Nat->Bool
 | []=>true
 |x::l=>!(l.contains x)&&Rv l
theorem Aa3:∀{l:List Nat},Rv l=true->l.Nodup:=by
 intro l
 induction l with
 |nil=>intro _;exact List.nodup_nil
 |cons x l ih=>
  simp_all[Rv]
def Ake(O:L5)(g:Nat)(pa:List VV):Option (VV×L5):=match O with
 | []=>none
 |a::O'=>bif Nat.beq a.g g&&N1 a.pa pa then some (a.r,O')else none
def AeU(Z:Nat×(List VV->Option VV))(E EH:G5)(run:Sn)(m:Nat)(g:Nat)(args:List VV)(h:VH)(O:L5):Option (VV×VH×L5):=
 match m with
 |0=>(match Gt h args with
  |some (pa,ids)=>(match Ake O g pa with
   |some (r,O')=>some (r,bif scal r then h else Bw ids h,O')
   |none=>(match E g with
    |some vf=>(match run vf pa [] O with
     |some (v,h2,O')=>(match frz h2 dF v with
      |some (r,_)=>some (r,bif scal r then h else Bw ids h,O')
      |none=>none)
     |none=>none)
    |none=>bif Nat.beq g Z.1 then(match Z.2 pa with
      |some v=>bif scal v then some (v,h,O)else none
      |none=>none)else none))
  |none=>none)
 |1=>(match E g with
  |some vf=>(match Gt h args with
   |some (pa,ids)=>(match run vf pa [] O with
    |some (v,h2,O')=>(match Bp h2 dF h.length v with
     |some (r,T)=>bif Rv T.moved&&T.moved.all (fun id=>!(T.frozen.contains id))then some (r,Bw ids h++T.objs,O')else none
     |none=>none)
    |none=>none)
   |none=>none)
  |none=>none)
 |2=>(match EH g with
  |some vf=>run vf args h O
  |none=>none)
 |_=>(match EH g with
  |some vf=>(match run vf args h O with
   |some (v,h2,O')=>(match frz h2 dF v with
    |some (r,ids)=>bif A5o h.length h (Bw ids h2)then some (r,(Bw ids h2).take h.length,O')else none
    |none=>none)
   |none=>none)
  |none=>none)
def A90(Z:Nat×(List VV->Option VV))(E EH:G5)(run:Sn)(m:Nat)(op:Bl)(F:A3)(h:VH)(O:L5):Option (VV×VH×L5):=
 match op with
 |.call f args=>match A3.ev F f with
  |.f g a c=>bif Nat.beq m 4 then none else AeU Z E EH run m g (a++args.map (A3.ev F)++c) h O
  |_=>none
 |op=>match Df m op F h with
  |some (v,h')=>some (v,h',O)
  |none=>none
def AeX(Z:Nat×(List VV->Option VV))(E EH:G5)(m:Nat->Nat)(run:Sn):List Ay->A3->VH->L5->Option (A3×VH×L5)
 | [],F,h,O=>some (F,h,O)
 |o::r,F,h,O=>match Cv F o.g with
  |some true=>(match A90 Z E EH run (DS m o.dst) o.op F h O with
   |some (v,h',O')=>AeX Z E EH m run r (BM F o.dst v) h' O'
   |none=>none)
  |some false=>AeX Z E EH m run r (BM F o.dst VV.nul) h O
  |none=>none
def Sj(Z:Nat×(List VV->Option VV))(E EH:G5)(m:Nat->Nat)(run:Sn):List AE->JP->A3->VH->L5->Option (A3×VH×L5)
 | [],_,F,h,O=>some (F,h,O)
 |s::r,L,F,h,O=>match Cv F s.o.g with
  |some true=>(match A90 Z E EH run (DS m s.o.dst) s.o.op F h O with
   |some (v,h',O')=>
    bif KA (BM F s.o.dst v) h' (Dd (DS m s.o.dst) s.o.dst s.o.op F h L) s.chk then
     Sj Z E EH m run r (Dd (DS m s.o.dst) s.o.dst s.o.op F h L) (BM F s.o.dst v) h' O'
    else none
   |none=>none)
  |some false=>Sj Z E EH m run r (Hj s.o.dst L) (BM F s.o.dst VV.nul) h O
  |none=>none
abbrev Aim:=A1->A3->VH->L5->Option (Ex×A3×VH×L5)
def Aay(ex:(Nat->Nat)->Aim):Sn:=fun vf args h O=>
 match ex vf.m vf.af.body (Tm.ofList args) h O with
 |some (e,F',h',O')=>(match e with
  |.exit _=>none
  |_=>(match Cs F' h' vf.af.results with|some vs=>some (Lt vs,h',O')|none=>none))
 |none=>none
def CD(Z:Nat×(List VV->Option VV))(E EH:G5):Nat->(Nat->Nat)->Aim
 |0,_,_,_,_,_=>none
 |n+1,m,c,F,h,O=>
  match c with
  |.skip=>some (.norm,F,h,O)
  |.reg ops=>(match AeX Z E EH m (Aay (CD Z E EH n)) ops F h O with|some (F',h',O')=>some (.norm,F',h',O')|none=>none)
  |.dreg ops=>(match Sj Z E EH m (Aay (CD Z E EH n)) ops [] F h O with|some (F',h',O')=>some (.norm,F',h',O')|none=>none)
  |.seq a b=>(match CD Z E EH n m a F h O with
   |some (.norm,F',h',O')=>CD Z E EH n m b F' h' O'
   |r=>r)
  |.cond c a b=>(match A3.ev F c with
   |.b true=>CD Z E EH n m a F h O
   |.b false=>CD Z E EH n m b F h O
   |_=>none)
  |.block id c=>(match CD Z E EH n m c F h O with
   |some (.exit id',F',h',O')=>bif Nat.beq id' id then some (.norm,F',h',O')else some (.exit id',F',h',O')
   |r=>r)
  |.loop c=>(match CD Z E EH n m c F h O with
   |some (.norm,F',h',O')=>bif A5o h.length h h' then CD Z E EH n m (.loop c) (Ew h.length F') (h'.take h.length) O' else bif AdX h.length h h' then CD Z E EH n m (.loop c) F' h' O' else none
   |r=>r)
  |.exit id=>some (.exit id,F,h,O)
  |.ret=>some (.ret,F,h,O)
  |.fail=>none
section
variable (V:Ai)
def Di(O:L5):Prop:=∀a∈O,VP V a.g a.pa fun r=>r=a.r
structure Ld(Z:Nat×(List VV->Option VV))(E EH:G5):Prop where
 fn:∀g vf,E g=some vf->V.fn g=some vf
 ext:∀g vf,E g=some vf->V.ext g=none
 ctz:V.ext Z.1=some Z.2
 fnH:∀g vf,EH g=some vf->V.fnH g=some vf
def Qh(run:Sn):Prop:=∀vf args h O v h' O',run vf args h O=some (v,h',O')->Di V O->Vb V vf args h (fun v1 h1=>v1=v/\h1=h')/\Di V O'
variable {V}
theorem Di.nil:Di V []:=fun _ h=>absurd h (List.not_mem_nil)
theorem Di.cons{g:Nat}{pa:List VV}{r:VV}{O:L5}(h:VP V g pa fun x=>x=r)(hO:Di V O):Di V (⟨g,pa,r⟩::O):=by
 intro a ha
 rcases List.mem_cons.1 ha with e|e
 .subst e;exact h
 .exact hO _ e
theorem Agb{O:L5}{g:Nat}{pa:List VV}{r:VV}{O':L5}(e:Ake O g pa=some (r,O'))(hO:Di V O):(VP V g pa fun x=>x=r)/\Di V O':=by
 cases O with
 |nil=>cases e
 |cons a O1=>
  simp only[Ake]at e
  cases hb:(Nat.beq a.g g&&N1 a.pa pa)with
  |false=>rw[hb]at e;cases e
  |true=>
   rw[hb]at e
   simp only[cond_true,Option.some.injEq,Prod.mk.injEq]at e
   obtain⟨rfl,rfl⟩:=e
   rw[and_eq_true]at hb
   have:=hO a List.mem_cons_self
   rw[eq_of_beq_eq_true hb.1,Hl _ _ hb.2]at this
   exact⟨this,fun x hx=>hO x (List.mem_cons_of_mem _ hx)⟩
theorem AeV{Z:Nat×(List VV->Option VV)}{E EH:G5}(hE:Ld V Z E EH){run:Sn}(hr:Qh V run){m g:Nat}{args:List VV}{h:VH}{O:L5}{v:VV}{h':VH}{O':L5}(e:AeU Z E EH run m g args h O=some (v,h',O'))(hO:Di V O):VC V m g args h (fun v1 h1=>v1=v/\h1=h')/\Di V O':=by
 unfold AeU at e
 unfold VC
 split at e
 .split at e
  .rename_i pa ids hp
   split at e
   .rename_i r O1 hh
    cases e
    obtain⟨q1,q2⟩:=Agb hh hO
    grind
   .split at e
    .rename_i vf hf
     split at e
     .rename_i v2 h2 O2 hq
      split at e
      .rename_i r ids2 hz
       cases e
       obtain⟨q1,q2⟩:=hr _ _ _ _ _ _ _ hq hO
       refine⟨⟨pa,ids,hp,?_⟩,q2⟩
       unfold VP
       rw[hE.ext _ _ hf]
       refine⟨vf,hE.fn _ _ hf,q1.mono ?_⟩
       grind
      .cases e
     .cases e
    .cases hb:Nat.beq g Z.1 with
     |false=>rw[hb]at e;cases e
     |true=>
      rw[hb]at e
      simp only[cond_true]at e
      split at e
      .rename_i v1 hv
       cases hs:scal v1 with
       |false=>rw[hs]at e;cases e
       |true=>
        rw[hs]at e
        simp only[cond_true,Option.some.injEq,Prod.mk.injEq]at e
        obtain⟨rfl,rfl,rfl⟩:=e
        refine⟨⟨pa,ids,hp,?_⟩,hO⟩
        unfold VP
        rw[eq_of_beq_eq_true hb,hE.ctz]
        grind
      .cases e
  .cases e
 .split at e
  .rename_i vf hf
   split at e
   .rename_i pa ids hp
    split at e
    .rename_i v2 h2 O2 hq
     split at e
     .rename_i r T hT
      cases hb:(Rv T.moved&&T.moved.all (fun id=>!(T.frozen.contains id)))with
      |false=>rw[hb]at e;cases e
      |true=>
       rw[hb]at e
       simp only[cond_true,Option.some.injEq,Prod.mk.injEq]at e
       obtain⟨rfl,rfl,rfl⟩:=e
       rw[and_eq_true]at hb
       obtain⟨q1,q2⟩:=hr _ _ _ _ _ _ _ hq hO
       refine⟨⟨pa,ids,hp,vf,hE.fn _ _ hf,q1.mono ?_⟩,q2⟩
       rintro _ _ ⟨rfl,rfl⟩
       refine⟨_,T,hT,⟨Aa3 hb.1,fun id hid hc=>?_⟩,rfl,rfl⟩
       grind
     .cases e
    .cases e
   .cases e
  .cases e
 .split at e
  .rename_i vf hf
   obtain⟨q1,q2⟩:=hr _ _ _ _ _ _ _ e hO
   exact⟨⟨vf,hE.fnH _ _ hf,q1⟩,q2⟩
  .cases e
 .rename_i m0 h0 h1' h2'
  split at e
  .rename_i vf hf
   split at e
   .rename_i v2 h2 O2 hq
    split at e
    .rename_i r ids hz
     cases hb:A5o h.length h (Bw ids h2)with
     |false=>rw[hb]at e;cases e
     |true=>
      rw[hb]at e
      simp only[cond_true,Option.some.injEq,Prod.mk.injEq]at e
      obtain⟨rfl,rfl,rfl⟩:=e
      obtain⟨q1,q2⟩:=hr _ _ _ _ _ _ _ hq hO
      have:J7 V g args h (fun v1 h1=>v1=r/\h1=(Bw ids h2).take h.length):=by
       refine⟨vf,hE.fnH _ _ hf,q1.mono ?_⟩
       rintro _ _ ⟨rfl,rfl⟩
       exact⟨_,ids,hz,A8o hb,rfl,rfl⟩
      grind
    .cases e
   .cases e
  .cases e
theorem A29{Z:Nat×(List VV->Option VV)}{E EH:G5}(hE:Ld V Z E EH){run:Sn}(hr:Qh V run){m:Nat}{op:Bl}{F:A3}{h:VH}{O:L5}{v:VV}{h':VH}{O':L5}(e:A90 Z E EH run m op F h O=some (v,h',O'))(hO:Di V O):Vo V m op F h (fun v1 h1=>v1=v/\h1=h')/\Di V O':=by
 by_cases hc:∃f args,op=.call f args
 .obtain⟨f,args,rfl⟩:=hc
  simp only[A90]at e
  split at e
  .rename_i g a c hf
   cases hm:Nat.beq m 4 with
   |true=>rw[hm]at e;cases e
   |false=>
   rw[hm,cond_false]at e
   obtain⟨q1,q2⟩:=AeV hE hr e hO
   exact⟨Qf hf q1 (fun h=>by rw[h]at hm;cases hm),q2⟩
  .cases e
 .have hc':∀f args,op≠.call f args:=fun f args h=>hc ⟨f,args,h⟩
  have e':(match Df m op F h with|some (v,h')=>some (v,h',O)|none=>none)=some (v,h',O'):=by
   cases op<;>first|exact e|exact absurd rfl (hc' _ _)
  split at e'
  .rename_i v1 h1 hv
   cases e'
   exact⟨(Ail hc').2 ⟨_,_,hv,rfl,rfl⟩,hO⟩
  .cases e'
theorem Aii{Z:Nat×(List VV->Option VV)}{E EH:G5}(hE:Ld V Z E EH){run:Sn}(hr:Qh V run){m:Nat->Nat}:∀{ops:List Ay} {F:A3} {h:VH} {O:L5} {F':A3} {h':VH} {O':L5},AeX Z E EH m run ops F h O=some (F',h',O')->Di V O->Vr V m ops F h (fun F1 h1=>F1=F'/\h1=h')/\Di V O':=by
 intro ops
 induction ops with
 |nil=>
  intro F h O F' h' O' e hO
  cases e
  exact⟨Qg.2 ⟨rfl,rfl⟩,hO⟩
 |cons o r ih=>
  intro F h O F' h' O' e hO
  simp only[AeX]at e
  split at e
  .rename_i hw
   split at e
   .rename_i v h1 O1 hv
    obtain⟨q1,q2⟩:=A29 hE hr hv hO
    obtain⟨q3,q4⟩:=ih e q2
    refine⟨?_,q4⟩
    rw[KC,hw]
    obtain⟨n,v2,h2,e2,rfl,rfl⟩:=q1
    exact⟨n,_,_,e2,q3⟩
   .cases e
  .grind[KC]
  .cases e
theorem Aaz{Z:Nat×(List VV->Option VV)}{E EH:G5}(hE:Ld V Z E EH){run:Sn}(hr:Qh V run){m:Nat->Nat}:∀{ops:List AE} {L:JP} {F:A3} {h:VH} {O:L5} {F':A3} {h':VH} {O':L5},Sj Z E EH m run ops L F h O=some (F',h',O')->Di V O->Vs V m ops L F h (fun F1 h1=>F1=F'/\h1=h')/\Di V O':=by
 intro ops
 induction ops with
 |nil=>
  intro L F h O F' h' O' e hO
  cases e
  exact⟨AaU.2 ⟨rfl,rfl⟩,hO⟩
 |cons o r ih=>
  intro L F h O F' h' O' e hO
  simp only[Sj]at e
  split at e
  .rename_i hw
   split at e
   .rename_i v h1 O1 hv
    cases hb:KA (BM F o.o.dst v) h1 (Dd (DS m o.o.dst) o.o.dst o.o.op F h L) o.chk with
    |false=>rw[hb]at e;cases e
    |true=>
     rw[hb]at e
     obtain⟨q1,q2⟩:=A29 hE hr hv hO
     obtain⟨q3,q4⟩:=ih e q2
     refine⟨?_,q4⟩
     rw[Py,hw]
     obtain⟨n,v2,h2,e2,rfl,rfl⟩:=q1
     exact⟨n,_,_,e2,A2a hb,q3⟩
   .cases e
  .grind[Py]
  .cases e
theorem DA{m:Nat->Nat}{c:A1}{F:A3}{h:VH}{e:Ex}{F':A3}{h':VH}(k:Vc V m c F h fun e1 F1 h1=>e1=e/\F1=F'/\h1=h'):∃n,Aw V n m c F h=some (e,F',h'):=by
 obtain⟨n,e1,F1,h1,q,rfl,rfl,rfl⟩:=k
 exact⟨n,q⟩
theorem AeW{Z:Nat×(List VV->Option VV)}{E EH:G5}(hE:Ld V Z E EH):∀(n:Nat),(∀{m:Nat->Nat} {c:A1} {F:A3} {h:VH} {O:L5} {e:Ex} {F':A3} {h':VH} {O':L5},CD Z E EH n m c F h O=some (e,F',h',O')->Di V O->Vc V m c F h (fun e1 F1 h1=>e1=e/\F1=F'/\h1=h')/\Di V O')/\Qh V (Aay (CD Z E EH n)):=by
 intro n
 induction n with
 |zero=>
  refine⟨fun e=>by simp[CD]at e,fun vf args h O v h' O' e=>by simp[Aay,CD]at e⟩
 |succ n ih=>
  obtain⟨ih,hR⟩:=ih
  have H:∀{m:Nat->Nat} {c:A1} {F:A3} {h:VH} {O:L5} {e:Ex} {F':A3} {h':VH} {O':L5},CD Z E EH (n+1) m c F h O=some (e,F',h',O')->Di V O->Vc V m c F h (fun e1 F1 h1=>e1=e/\F1=F'/\h1=h')/\Di V O':=by
   intro m c F h O e F' h' O' k hO
   cases c with
   |skip=>simp only[CD,Option.some.injEq,Prod.mk.injEq]at k;obtain⟨rfl,rfl,rfl,rfl⟩:=k;exact⟨⟨1,_,_,_,rfl,rfl,rfl,rfl⟩,hO⟩
   |exit id=>simp only[CD,Option.some.injEq,Prod.mk.injEq]at k;obtain⟨rfl,rfl,rfl,rfl⟩:=k;exact⟨⟨1,_,_,_,rfl,rfl,rfl,rfl⟩,hO⟩
   |ret=>simp only[CD,Option.some.injEq,Prod.mk.injEq]at k;obtain⟨rfl,rfl,rfl,rfl⟩:=k;exact⟨⟨1,_,_,_,rfl,rfl,rfl,rfl⟩,hO⟩
   |fail=>simp[CD]at k
   |reg ops=>
    simp only[CD]at k
    split at k
    .rename_i F1 h1 O1 hr
     cases k
     obtain⟨⟨j,F2,h2,e2,rfl,rfl⟩,q2⟩:=Aii hE hR hr hO
     exact⟨⟨j+1,.norm,_,_,by simp only[Aw,e2],rfl,rfl,rfl⟩,q2⟩
    .cases k
   |dreg ops=>
    simp only[CD]at k
    split at k
    .rename_i F1 h1 O1 hr
     cases k
     obtain⟨⟨j,F2,h2,e2,rfl,rfl⟩,q2⟩:=Aaz hE hR hr hO
     exact⟨⟨j+1,.norm,_,_,by simp only[Aw,e2],rfl,rfl,rfl⟩,q2⟩
    .cases k
   |seq a b=>
    simp only[CD]at k
    cases ha:CD Z E EH n m a F h O with
    |none=>rw[ha]at k;cases k
    |some y=>
     obtain⟨e1,F1,h1,O1⟩:=y
     rw[ha]at k
     obtain⟨q1,q2⟩:=ih ha hO
     obtain⟨j,q1⟩:=DA q1
     cases e1 with
     |norm=>
      obtain⟨q3,q4⟩:=ih k q2
      obtain⟨i,q3⟩:=DA q3
      refine⟨⟨max j i+1,e,F',h',?_,rfl,rfl,rfl⟩,q4⟩
      grind[Aw,CI,Nat.le_max_right]
     |exit id=>cases k;exact⟨⟨j+1,_,_,_,by simp only[Aw,q1],rfl,rfl,rfl⟩,q2⟩
     |ret=>cases k;exact⟨⟨j+1,_,_,_,by simp only[Aw,q1],rfl,rfl,rfl⟩,q2⟩
   |cond x a b=>
    simp only[CD]at k
    split at k
    .rename_i hx
     obtain⟨q1,q2⟩:=ih k hO
     obtain⟨j,q1⟩:=DA q1
     exact⟨⟨j+1,_,_,_,by simp only[Aw,hx];exact q1,rfl,rfl,rfl⟩,q2⟩
    .rename_i hx
     obtain⟨q1,q2⟩:=ih k hO
     obtain⟨j,q1⟩:=DA q1
     exact⟨⟨j+1,_,_,_,by simp only[Aw,hx];exact q1,rfl,rfl,rfl⟩,q2⟩
    .cases k
   |block id c=>
    simp only[CD]at k
    cases ha:CD Z E EH n m c F h O with
    |none=>rw[ha]at k;cases k
    |some y=>
     obtain⟨e1,F1,h1,O1⟩:=y
     rw[ha]at k
     obtain⟨q1,q2⟩:=ih ha hO
     obtain⟨j,q1⟩:=DA q1
     cases e1 with
     |norm=>cases k;exact⟨⟨j+1,_,_,_,by simp only[Aw,q1],rfl,rfl,rfl⟩,q2⟩
     |ret=>cases k;exact⟨⟨j+1,_,_,_,by simp only[Aw,q1],rfl,rfl,rfl⟩,q2⟩
     |exit id'=>
      simp only at k
      cases hb:Nat.beq id' id with
      |true=>rw[hb]at k;cases k;exact⟨⟨j+1,_,_,_,by simp only[Aw,q1,hb,cond_true],rfl,rfl,rfl⟩,q2⟩
      |false=>rw[hb]at k;cases k;exact⟨⟨j+1,_,_,_,by simp only[Aw,q1,hb,cond_false],rfl,rfl,rfl⟩,q2⟩
   |loop c=>
    simp only[CD]at k
    cases ha:CD Z E EH n m c F h O with
    |none=>rw[ha]at k;cases k
    |some y=>
     obtain⟨e1,F1,h1,O1⟩:=y
     rw[ha]at k
     obtain⟨q1,q2⟩:=ih ha hO
     obtain⟨j,q1⟩:=DA q1
     cases e1 with
     |norm=>
      simp only at k
      cases hb:A5o h.length h h1 with
      |false=>
       rw[hb]at k
       simp only[cond_false]at k
       cases hb2:AdX h.length h h1 with
       |false=>rw[hb2]at k;cases k
       |true=>
        rw[hb2]at k
        obtain⟨q3,q4⟩:=ih k q2
        obtain⟨i,q3⟩:=DA q3
        refine⟨⟨max j i+1,e,F',h',?_,rfl,rfl,rfl⟩,q4⟩
        simp only[Aw,CI (Nat.le_max_left j i) q1]
        rw[if_neg (AhD hb2)]
        exact CI (Nat.le_max_right j i) q3
      |true=>
       rw[hb]at k
       obtain⟨q3,q4⟩:=ih k q2
       obtain⟨i,q3⟩:=DA q3
       refine⟨⟨max j i+1,e,F',h',?_,rfl,rfl,rfl⟩,q4⟩
       simp only[Aw,CI (Nat.le_max_left j i) q1]
       rw[if_pos (A8o hb)]
       exact CI (Nat.le_max_right j i) q3
     |exit id=>cases k;exact⟨⟨j+1,_,_,_,by simp only[Aw,q1],rfl,rfl,rfl⟩,q2⟩
     |ret=>cases k;exact⟨⟨j+1,_,_,_,by simp only[Aw,q1],rfl,rfl,rfl⟩,q2⟩
  refine⟨H,?_⟩
  intro vf args h O v h' O' e hO
  unfold Aay at e
  split at e
  .rename_i e1 F1 h1 O1 hr
   obtain⟨q1,q2⟩:=H hr hO
   obtain⟨j,q1⟩:=DA q1
   cases e1 with
   |exit id=>cases e
   |norm=>
    simp only at e
    split at e
    .rename_i vs hvs;cases e;exact⟨⟨j,_,_,by simp only[Ha,q1,hvs],rfl,rfl⟩,q2⟩
    .cases e
   |ret=>
    simp only at e
    split at e
    .rename_i vs hvs;cases e;exact⟨⟨j,_,_,by simp only[Ha,q1,hvs],rfl,rfl⟩,q2⟩
    .cases e
  .cases e
def ZL(Z:Nat×(List VV->Option VV))(E EH:G5)(n:Nat)(vf:Gd)(args:List VV)(O:L5)(r:VV):Bool:=
 match Aay (CD Z E EH n) vf args [] O with
 |some (v,h2,_)=>(match frz h2 dF v with
  |some (r',_)=>ZN r' r
  |none=>false)
 |none=>false
theorem A01{Z:Nat×(List VV->Option VV)}{E EH:G5}(hE:Ld V Z E EH){g:Nat}{af:A4}{mm:Nat->Nat}{args:List VV}{O:L5}{r:VV}(n:Nat)(hx:V.ext g=none)(hf:V.fn g=some ⟨af,mm⟩)(hO:Di V O)(h:ZL Z E EH n ⟨af,mm⟩ args O r=true):VP V g args fun x=>x=r:=by
 unfold ZL at h
 split at h
 .rename_i v h2 O1 hr
  split at h
  .rename_i r' ids hz
   have q:=((AeW hE n).2 _ _ _ _ _ _ _ hr hO).1
   unfold VP
   rw[hx]
   exact⟨_,hf,q.mono fun v1 h1 ⟨e1,e2⟩=>⟨r',ids,by rw[e1,e2];exact hz,A2E _ _ h⟩⟩
  .cases h
 .cases h
end
end Go.AM
namespace Go.AM
def VA(V:Ai)(a:M3):Prop:=VP V a.g a.pa fun x=>x=a.r
def sel(k:Nat)(a b:G5):G5:=fun g=>bif Nat.blt g k then a g else b g
def leaf(n:Nat)(vf:Gd):G5:=fun g=>bif Nat.beq g n then some vf else none
def A2e(V:Ai)(E:G5):Prop:=∀g vf,E g=some vf->V.ext g=none/\V.fn g=some vf
def A2d(V:Ai)(E:G5):Prop:=∀g vf,E g=some vf->V.fnH g=some vf
section
variable {V:Ai}
theorem A2e.sel{k:Nat}{a b:G5}(ha:A2e V a)(hb:A2e V b):A2e V (sel k a b):=by
 intro g vf e
 unfold AM.sel at e
 cases h:Nat.blt g k with
 |true=>rw[h]at e;exact ha _ _ e
 |false=>rw[h]at e;exact hb _ _ e
theorem A2d.sel{k:Nat}{a b:G5}(ha:A2d V a)(hb:A2d V b):A2d V (sel k a b):=by
 intro g vf e
 unfold AM.sel at e
 cases h:Nat.blt g k with
 |true=>rw[h]at e;exact ha _ _ e
 |false=>rw[h]at e;exact hb _ _ e
theorem A2e.leaf{n:Nat}{vf:Gd}(h:V.ext n=none/\V.fn n=some vf):A2e V (leaf n vf):=by
 intro g vf' e
 grind[AM.leaf,eq_of_beq_eq_true]
theorem A2d.leaf{n:Nat}{vf:Gd}(h:V.fnH n=some vf):A2d V (leaf n vf):=by
 intro g vf' e
 grind[AM.leaf,eq_of_beq_eq_true]
theorem Ld.of{Z:Nat×(List VV->Option VV)}{E EH:G5}(h1:A2e V E)(h2:A2d V EH)(h3:V.ext Z.1=some Z.2):Ld V Z E EH:=⟨fun g vf e=>(h1 g vf e).2,fun g vf e=>(h1 g vf e).1,h3,h2⟩
theorem CM{Z:Nat×(List VV->Option VV)}{E EH:G5}(hE:Ld V Z E EH){a:M3}{af:A4}{mm:Nat->Nat}(hx:V.ext a.g=none)(hf:V.fn a.g=some ⟨af,mm⟩){O:L5}(hO:Di V O)(h:ZL Z E EH 5000 ⟨af,mm⟩ a.pa O a.r=true):VA V a:=A01 hE 5000 hx hf hO h
end
end Go.AM
namespace Go.AM
open Go
def Gl(A:Dz)(tz:Nat)(mu muH:Nat->Nat->Nat):Ai where
 fn g:=match A.ext g with|some _=>none|none=>(A.fn g).map fun af=>⟨af,mu g⟩
 fnH g:=match A.ext g with|some _=>none|none=>(A.fn g).map fun af=>⟨af,muH g⟩
 ext g:=bif Nat.beq g tz then some A5I else none
theorem A5K{A:Dz}{tz:Nat}{mu muH:Nat->Nat->Nat}(h:A.ext tz=some ctzX):Qd (Gl A tz mu muH) A where
 fn g vf e:=by
  unfold Gl at e
  simp only at e
  cases hx:A.ext g with
  |some x=>rw[hx]at e;cases e
  |none=>
   rw[hx]at e
   simp only[Option.map_eq_some_iff]at e
   grind
 fnH g vf e:=by
  unfold Gl at e
  simp only at e
  cases hx:A.ext g with
  |some x=>rw[hx]at e;cases e
  |none=>
   rw[hx]at e
   simp only[Option.map_eq_some_iff]at e
   grind
 ext g x e:=by
  unfold Gl at e
  simp only at e
  cases hb:Nat.beq g tz with
  |false=>rw[hb]at e;cases e
  |true=>
   rw[hb]at e
   cases e
   rw[eq_of_beq_eq_true hb]
   refine⟨_,h,?_⟩
   intro Z pa ws σ v hv hx hs
   obtain⟨hl,hp⟩:=hv
   unfold A5I at hx
   split at hx
   .rename_i n
    split at hx
    .rename_i hn
     cases hx
     obtain⟨w,rfl⟩:∃w,ws=[w]:=by
      cases ws with
      |nil=>cases hl
      |cons w ws=>grind
     have hw:=hp 0 _ _ rfl rfl
     cases hw
     refine⟨.i .i64 (AfG n.toNat:Nat),?_,?_⟩
     .unfold ctzX
      have h1:(A0T .u64&&Nat.blt n.toNat 18446744073709551616&&A6H n)=true:=by
       obtain⟨m,rfl⟩:=Int.eq_ofNat_of_zero_le hn.1
       simp only[A0T,Bool.true_and,and_eq_true,Nat.blt_eq,Int.ofNat_eq_natCast,Int.toNat_natCast]
       exact⟨by omega,rfl⟩
      simp only[h1,cond_true]
     .rw[A67 _ (by omega)]
      exact .i _ _ _
    .cases hx
   .cases hx
theorem AuJ{A:Dz}{tz g:Nat}{mu muH:Nat->Nat->Nat}{af:A4}{m:Nat->Nat}(h:A.ext g=none/\A.fn g=some af)(hne:Nat.beq g tz=false)(hm:mu g=m):(Gl A tz mu muH).ext g=none/\(Gl A tz mu muH).fn g=some ⟨af,m⟩:=by
 simp_all[Gl]
theorem AuK{A:Dz}{tz g:Nat}{mu muH:Nat->Nat->Nat}{af:A4}{m:Nat->Nat}(h:A.ext g=none/\A.fn g=some af)(hm:muH g=m):(Gl A tz mu muH).fnH g=some ⟨af,m⟩:=by
 grind[Gl]
theorem AuL{A:Dz}{tz:Nat}{mu muH:Nat->Nat->Nat}:(Gl A tz mu muH).ext tz=some A5I:=by
 simp_all[Gl]
theorem Ag1{h:VH}{d:Nat}{v:VV}{b:Bool}{ids:List Nat}(e:frz h d v=some (.b b,ids)):v=.b b:=by
 cases d with
 |zero=>cases e
 |succ d=>
  cases v with
  |b x=>cases e;rfl
  |p id ver r c=>
   grind[frz]
  |sl id ver off n=>
   simp only[frz]at e
   grind
  |f g a c=>
   grind[frz]
  |ag cs=>
   grind[frz]
  |tu cs=>
   grind[frz]
  |un=>cases e
  |i k n=>cases e
  |s x=>cases e
  |nf=>cases e
  |np=>cases e
  |nl=>cases e
  |fp cs c=>cases e
  |ls rows=>cases e
theorem Ahh{V:Ai}{A:Dz}(fit:Qd V A){g:Nat}{pa:List VV}(hx:V.ext g=none){b:Bool}(h:VP V g pa fun r=>r=.b b){Z:BQ}{ρ:B6}{σ:St}{ws:List AV}(H:HR Z ρ [] σ)(hv:Cw Z ρ pa ws):∃N σ',call A N g ws σ=some (.b b,σ'):=by
 unfold VP at h
 rw[hx]at h
 obtain⟨vf,h1,n,v,h2,h3,r,ids,h4,h5⟩:=h
 subst h5
 have hvb:v=.b b:=Ag1 h4
 subst hvb
 obtain⟨N,w,σ',Z',ρ',k1,k2,k3,k4⟩:=Aem (AfT fit n) _ _ _ _ _ h3 _ _ _ _ H hv
 obtain⟨q1,q2⟩:=fit.fn _ _ h1
 cases k3
 exact⟨N,σ',by rw[EC q1 q2];exact k1⟩
theorem hr0:HR (fun _=>none) ρ0 [] σ0 where
 nd id h:=A9O id
 zs id ob h:=by cases h
 live i o h:=by simp at h
 nils i o h:=by simp at h
 inj i j o o' rid e e' h:=by simp at h
 dom id ver x h:=by cases h
 rdom id ver rid e h:=by cases h
 vers i o ver x h:=by simp at h
end Go.AM
namespace Go.AM
open Go Go.Proofs Go.RowKit Go.Shelf
theorem Adf{α β:Type}{f:α->Option β}:∀{l:List α} {xs:List β},l.mapM f=some xs->∀(j:Nat) (a:α),l[j]? = some a->∃y,f a=some y/\xs[j]? = some y:=by
 intro l
 induction l with
 |nil=>intro xs _ j a h;simp at h
 |cons b l ih=>
  intro xs h j a hj
  rw[List.mapM_cons]at h
  simp only[Option.bind_eq_bind,Option.bind_eq_some_iff,Option.pure_def,Option.some.injEq]at h
  obtain⟨y,h1,ys,h2,rfl⟩:=h
  cases j with
  |zero=>simp only[List.getElem?_cons_zero,Option.some.injEq]at hj;subst hj;exact⟨y,h1,rfl⟩
  |succ j=>simp only[List.getElem?_cons_succ]at hj ⊢;exact ih h2 j a hj
theorem A0S{H:Type}{enc:TypeId×Value->H}{P:Program}{w:World}{base:Nat}{sp:Nat->Bool}{held:Bool}{fuel:Nat}{t:TypeId}{k:IntKind}{c:Value}{y:DataW H×List MemPlace}
  (ht:P.underlying t=some (.int k)) (h:DataW.trod enc P w base sp held fuel t [c]=some y):∃n,c=.int k n/\y=(.lit (.int k n),[]):=by
 cases fuel with
 |zero=>simp[DataW.trod]at h
 |succ fuel=>
  cases c<;>simp[DataW.trod,ht]at h
  rename_i k' n
  obtain⟨⟨rfl,_⟩,rfl⟩:=h
  exact⟨n,rfl,rfl⟩
theorem tab_of_laid{P:Program}{W:World}{nm:String}{g t e n:Nat}{tab:List Nat}(hg:P.globalNamed nm=some g)(ht:(P.globals[g]?).map (·.type)=some t)(hu:P.underlying t=some (.array n e))(hc:P.cellsOf t=n)(hce:P.cellsOf e=1)(hue:P.underlying e=some (.int .u8))(hn:tab.length=n)
  (h:laidMet P [(nm,.agg (tab.map fun(x:Nat)=>(DataW.lit (Lit.int .u8 (x:Int)):DataW Unit)))] W):TabAt g tab W:=by
 obtain⟨ps,⟨g',t',cs,fuel,p,q,hg',ht',hvar,hd,_,_⟩,_⟩:=h
 obtain rfl:=Option.some.inj (hg.symm.trans hg')
 obtain rfl:=Option.some.inj (ht.symm.trans ht')
 intro j hj
 rw[World.var?_cell hg hvar j]
 cases fuel with
 |zero=>simp[DataW.trod]at hd
 |succ fuel=>
  simp only[DataW.trod,hu,hc,hce]at hd
  split at hd
  .rename_i hl
   simp only[Option.map_eq_some_iff]at hd
   obtain⟨xs,hm,hx⟩:=hd
   simp only[Prod.mk.injEq,DataW.agg.injEq]at hx
   have hjn:j<n:=by omega
   obtain⟨y,h1,h2⟩:=Adf hm j j (by simp[hjn])
   have hlen:j<cs.toList.length:=by omega
   have e1:((cs.toList.drop (j * 1)).take 1)=[cs.toList[j]]:=by
    rw[Nat.mul_one,List.drop_eq_getElem_cons hlen];rfl
   rw[e1]at h1
   obtain⟨z,h3,h4⟩:=A0S hue h1
   have h5:(xs.map (·.1))[j]? = some (.lit (.int .u8 z)):=by rw[List.getElem?_map,h2,h4];rfl
   rw[hx.1,List.getElem?_map]at h5
   have h6:tab[j]? = some (tab.getD j 0):=by simp[hj]
   rw[h6]at h5
   simp only[Option.map_some,Option.some.injEq,DataW.lit.injEq,Lit.int.injEq,true_and]at h5
   have h7:cs[j]? = some cs.toList[j]:=by
    have hj2:j<cs.size:=by simpa using hlen
    rw[Array.getElem?_eq_getElem hj2];simp
   rw[h7,h3,h5]
  .cases hd
theorem Amc{W:World}{g:Nat}(h:TabAt g Lib.deBruijn64tab W):g<W.heap.size:=by
 have:=h 0 (by decide)
 apply Classical.byContradiction
 intro hg
 have hn:W.heap[g]? = none:=Array.getElem?_eq_none (by omega)
 simp only[World.cell?,hn]at this
 cases this
end Go.AM
