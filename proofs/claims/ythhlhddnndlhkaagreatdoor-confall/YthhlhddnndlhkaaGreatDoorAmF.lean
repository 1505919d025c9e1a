/-
  Own work, part of the proof of these laws: runs that the kernel carries out; the machine of values over a program.
-/
import Derived.Test.YthhlhddnndlhkaaGreatDoorAmE
import Derived.ChangeVars
import Derived.JoinedOf
import Derived.RowKit
set_option maxRecDepth 10000
set_option maxHeartbeats 64000000
set_option linter.unusedVariables false
set_option linter.unusedSimpArgs false
set_option linter.unusedSectionVars false
set_option linter.unnecessarySimpa false
open Bool (and_eq_true or_eq_true)
open Nat (eq_of_beq_eq_true)
namespace Go.AM
open Go
def eqI (a b:Int):Bool:=match a,b with
 | .ofNat a,.ofNat b=>Nat.beq a b
 | .negSucc a,.negSucc b=>Nat.beq a b
 | _,_=>false
theorem Anz {a b:Int} (h:eqI a b=true):a=b:=by
 cases a<;>cases b<;>simp only [eqI] at h
 .rw [eq_of_beq_eq_true h]
 .cases h
 .cases h
 .rw [eq_of_beq_eq_true h]
def eqK (a b:IntKind):Bool:=match a,b with
 | .i8,.i8 | .i16,.i16 | .i32,.i32 | .i64,.i64 | .u8,.u8 | .u16,.u16 | .u32,.u32 | .u64,.u64=>true
 | _,_=>false
theorem AnA {a b:IntKind} (h:eqK a b=true):a=b:=by
 cases a<;>cases b<;>first | rfl | cases h
def AjE (a b:List UInt8):Bool:=match a,b with
 | [],[]=>true
 | x::a,y::b=>Nat.beq x.toNat y.toNat && AjE a b
 | _,_=>false
theorem AjF:∀ {a b:List UInt8},AjE a b=true->a=b:=by
 intro a
 induction a with
 | nil=>intro b h;cases b with
  | nil=>rfl
  | cons y b=>cases h
 | cons x a ih=>intro b h;cases b with
  | nil=>cases h
  | cons y b =>
   simp only [AjE,and_eq_true] at h
   rw [UInt8.toNat_inj.1 (eq_of_beq_eq_true h.1),ih h.2]
mutual
def eqV:VV->VV->Bool
 | .b x,.b y=>(match x,y with | true,true=>true | false,false=>true | _,_=>false)
 | .i k n,.i k' n'=>eqK k k' && eqI n n'
 | .s x,.s y=>AjE x.data.toList y.data.toList
 | .nf,.nf=>true
 | .np,.np=>true
 | .nl,.nl=>true
 | .fp a c,.fp a' c'=>Nat.beq c c' && RP a a'
 | .ls r,.ls r'=>AeC r r'
 | .f g a c,.f g' a' c'=>Nat.beq g g' && RP a a' && RP c c'
 | .ag a,.ag a'=>RP a a'
 | .tu a,.tu a'=>RP a a'
 | .p a b c d,.p a' b' c' d'=>Nat.beq a a' && Nat.beq b b' && Nat.beq c c' && Nat.beq d d'
 | .sl a b c d,.sl a' b' c' d'=>Nat.beq a a' && Nat.beq b b' && Nat.beq c c' && Nat.beq d d'
 | _,_=>false
def RP:List VV->List VV->Bool
 | [],[]=>true
 | x::a,y::b=>eqV x y && RP a b
 | _,_=>false
def AeC:List (List VV)->List (List VV)->Bool
 | [],[]=>true
 | x::a,y::b=>RP x y && AeC a b
 | _,_=>false
end
mutual
theorem AbE:∀ (a b:VV),eqV a b=true->a=b
  | .b x, b, h => by cases b <;> simp only [eqV] at h <;> first | cases h | skip
                     rename_i y;cases x<;>cases y<;>first | rfl | cases h
  | .i k n, b, h => by cases b <;> simp only [eqV] at h <;> first | cases h | skip
                       simp only [and_eq_true] at h
                       rw [AnA h.1,Anz h.2]
  | .s x, b, h => by cases b <;> simp only [eqV] at h <;> first | cases h | skip
                     rename_i y
                     have:=AjF h
                     obtain ⟨⟨x⟩⟩:=x;obtain ⟨⟨y⟩⟩:=y
                     simp only at this;rw [this]
  | .nf,b,h=>by cases b<;>simp only [eqV] at h<;>first | rfl | cases h
  | .np,b,h=>by cases b<;>simp only [eqV] at h<;>first | rfl | cases h
  | .nl,b,h=>by cases b<;>simp only [eqV] at h<;>first | rfl | cases h
  | .un,b,h=>by cases b<;>simp only [eqV] at h<;>cases h
  | .fp a c, b, h => by cases b <;> simp only [eqV] at h <;> first | cases h | skip
                        rename_i a' c'
                        simp only [and_eq_true] at h
                        rw [eq_of_beq_eq_true h.1,JN a a' h.2]
  | .ls r, b, h => by cases b <;> simp only [eqV] at h <;> first | cases h | skip
                      rename_i r'
                      rw [Ad4 r r' h]
  | .f g a c, b, h => by cases b <;> simp only [eqV] at h <;> first | cases h | skip
                         rename_i g' a' c'
                         simp only [and_eq_true] at h
                         rw [eq_of_beq_eq_true h.1.1,JN a a' h.1.2,JN c c' h.2]
  | .ag a, b, h => by cases b <;> simp only [eqV] at h <;> first | cases h | skip
                      rename_i a';rw [JN a a' h]
  | .tu a, b, h => by cases b <;> simp only [eqV] at h <;> first | cases h | skip
                      rename_i a';rw [JN a a' h]
  | .p _ _ _ _, b, h => by cases b <;> simp only [eqV] at h <;> first | cases h | skip
                           simp only [and_eq_true] at h
                           rw [eq_of_beq_eq_true h.1.1.1,eq_of_beq_eq_true h.1.1.2,eq_of_beq_eq_true h.1.2,eq_of_beq_eq_true h.2]
  | .sl _ _ _ _, b, h => by cases b <;> simp only [eqV] at h <;> first | cases h | skip
                            simp only [and_eq_true] at h
                            rw [eq_of_beq_eq_true h.1.1.1,eq_of_beq_eq_true h.1.1.2,eq_of_beq_eq_true h.1.2,eq_of_beq_eq_true h.2]
theorem JN:∀ (a b:List VV),RP a b=true->a=b
  | [],b,h=>by cases b<;>first | rfl | (simp only [RP] at h;cases h)
  | x::a,b,h=>by
    cases b with
    | nil=>simp only [RP] at h;cases h
    | cons y b =>
      simp only [RP,and_eq_true] at h
      rw [AbE x y h.1,JN a b h.2]
theorem Ad4:∀ (a b:List (List VV)),AeC a b=true->a=b
  | [],b,h=>by cases b<;>first | rfl | (simp only [AeC] at h;cases h)
  | x::a,b,h=>by
    cases b with
    | nil=>simp only [AeC] at h;cases h
    | cons y b =>
      simp only [AeC,and_eq_true] at h
      rw [JN x y h.1,Ad4 a b h.2]
end
structure GK where
 g:Nat
 pa:List VV
 r:VV
abbrev NM:=List GK
def Acd (L:Nat):VH->VH->Bool
 | [],_=>true
 | _::h,o'::h'=>(match o' with | none=>true | some x=>x.rows.all (Db L)) && Acd L h h'
 | _::_,[]=>false
theorem AdD {L:Nat}:∀ {h h':VH},Acd L h h' = true->Qp L h h':=by
 intro h
 induction h with
 | nil=>intro h' _;cases h'<;>trivial
 | cons o h ih =>
  intro h' e
  cases h' with
  | nil=>cases e
  | cons o' h' =>
   simp only [Acd,and_eq_true] at e
   refine ⟨.inr fun x hx=>?_,ih e.2⟩
   subst hx
   exact e.1
def AhR (L:Nat):VH->VH->Bool
 | o::h,o'::h'=>(match o' with | none=>false | some x=>!(x.rows.all (Db L)) && (match o with | none=>true | some y=>y.rows.all (Db L))) || AhR L h h'
 | [],_=>false
 | _::_,[]=>true
theorem AlA {L:Nat}:∀ {h h':VH},AhR L h h' = true->¬Qp L h h':=by
 intro h
 induction h with
 | nil=>intro h' e;cases h'<;>cases e
 | cons o h ih =>
  intro h' e k
  cases h' with
  | nil=>exact k
  | cons o' h' =>
   simp only [AhR,or_eq_true] at e
   rcases e with e | e
   .cases o' with
    | none=>cases e
    | some x =>
     simp only [and_eq_true,Bool.not_eq_true'] at e
     rcases k.1 with k1 | k1
     .subst k1
      simp only at e
      rw [e.1] at e
      cases e.2
     .rw [k1 x rfl] at e
      cases e.1
   .exact ih e k.2
def Alj (x:Nat×Option Nat×Nat):LZ->Bool
 | []=>false
 | y::l=>(Nat.beq x.1 y.1 && (match x.2.1,y.2.1 with | none,none=>true | some a,some b=>Nat.beq a b | _,_=>false) && Nat.beq x.2.2 y.2.2) || Alj x l
theorem Alk {x:Nat×Option Nat×Nat}:∀ {l:LZ},Alj x l=true->x∈l:=by
 intro l
 induction l with
 | nil=>intro h;cases h
 | cons y l ih =>
  intro h
  simp only [Alj,or_eq_true,and_eq_true] at h
  rcases h with ⟨⟨h1,h2⟩,h3⟩ | h
  .obtain ⟨a,b,c⟩:=x;obtain ⟨a',b',c'⟩:=y
   simp only at h1 h2 h3
   have e1:=eq_of_beq_eq_true h1
   have e3:=eq_of_beq_eq_true h3
   have e2:b=b':=by
    cases b<;>cases b'<;>first | rfl | cases h2 | rw [eq_of_beq_eq_true h2]
   subst e1 e2 e3
   exact List.mem_cons_self
  .exact List.mem_cons_of_mem _ (ih h)
def MK (F:A4) (h:VH) (L:LZ):List AI->Bool
 | []=>true
 | o::r=>(match CW F o.g with
  | some false=>true
  | some true=>(match o.dst,o.op with
   | some d,.ld n (.t a)=>Alj (d,n,a) L || (D5 (A4.tmp F d) && (match vld h n (A4.tmp F a) with | some v=>eqV v (A4.tmp F d) | none=>false))
   | _,_=>false)
  | none=>false) && MK F h L r
theorem Ab7 {F:A4} {h:VH} {L:LZ}:∀ {l:List AI},MK F h L l=true->Cj F h L l:=by
 intro l
 induction l with
 | nil=>intro _;trivial
 | cons o r ih =>
  intro e
  simp only [MK,and_eq_true] at e
  refine ⟨?_,ih e.2⟩
  have e1:=e.1
  split at e1
  .rename_i hw;rw [hw];trivial
  .rename_i hw
   rw [hw]
   simp only
   split at e1
   .rename_i d n a h1 h2
    rw [h1,h2]
    simp only
    rw [or_eq_true] at e1
    rcases e1 with e1 | e1
    .exact .inl (Alk e1)
    .rw [and_eq_true] at e1
     refine .inr ⟨e1.1,?_⟩
     have e2:=e1.2
     split at e2
     .rename_i v hv;rw [hv,AbE _ _ e2]
     .cases e2
   .cases e1
  .cases e1
abbrev A2w:=HE->List VV->VH->NM->Option (VV×VH×NM)
abbrev G7:=Nat->Option HE
def A1C:List Nat->Bool
 | []=>true
 | x::l=>!(l.contains x) && A1C l
theorem Afk:∀ {l:List Nat},A1C l=true->l.Nodup:=by
 intro l
 induction l with
 | nil=>intro _;exact List.nodup_nil
 | cons x l ih =>
  intro h
  simp only [A1C,and_eq_true,Bool.not_eq_true'] at h
  refine List.nodup_cons.2 ⟨fun hm=>?_,ih h.2⟩
  rw [List.contains_iff_mem.2 hm] at h
  cases h.1
def AnQ (O:NM) (g:Nat) (pa:List VV):Option (VV×NM):=match O with
 | []=>none
 | a::O'=>bif Nat.beq a.g g && RP a.pa pa then some (a.r,O') else none
def AiY (Z:Nat×(List VV->Option VV)) (E EH:G7) (run:A2w) (m:Nat) (g:Nat) (args:List VV) (h:VH) (O:NM):Option (VV×VH×NM) :=
 match m with
 | 0=>(match HQ h args with
  | some (pa,ids)=>(match AnQ O g pa with
   | some (r,O')=>some (r,bif scal r then h else BL ids h,O')
   | none=>(match E g with
    | some vf=>(match run vf pa [] O with
     | some (v,h2,O')=>(match frz h2 dF v with
      | some (r,_)=>some (r,bif scal r then h else BL ids h,O')
      | none=>none)
     | none=>none)
    | none=>bif Nat.beq g Z.1 then (match Z.2 pa with
      | some v=>bif scal v then some (v,h,O) else none
      | none=>none) else none))
  | none=>none)
 | 1=>(match E g with
  | some vf=>(match HQ h args with
   | some (pa,ids)=>(match run vf pa [] O with
    | some (v,h2,O')=>(match BF h2 dF h.length v with
     | some (r,T)=>bif A1C T.moved && T.moved.all (fun id=>!(T.frozen.contains id)) then some (r,BL ids h++T.objs,O') else none
     | none=>none)
    | none=>none)
   | none=>none)
  | none=>none)
 | 2=>(match EH g with
  | some vf=>run vf args h O
  | none=>none)
 | _=>(match EH g with
  | some vf=>(match run vf args h O with
   | some (v,h2,O')=>(match frz h2 dF v with
    | some (r,ids)=>bif Acd h.length h (BL ids h2) then some (r,(BL ids h2).take h.length,O') else none
    | none=>none)
   | none=>none)
  | none=>none)
def Ae8 (Z:Nat×(List VV->Option VV)) (E EH:G7) (run:A2w) (m:Nat) (op:By) (F:A4) (h:VH) (O:NM):Option (VV×VH×NM) :=
 match op with
 | .call f args=>match A4.ev F f with
  | .f g a c=>bif Nat.beq m 4 then none else AiY Z E EH run m g (a++args.map (A4.ev F)++c) h O
  | _=>none
 | op=>match DN m op F h with
  | some (v,h')=>some (v,h',O)
  | none=>none
def Aj1 (Z:Nat×(List VV->Option VV)) (E EH:G7) (m:Nat->Nat) (run:A2w):List AI->A4->VH->NM->Option (A4×VH×NM)
 | [],F,h,O=>some (F,h,O)
 | o::r,F,h,O=>match CW F o.g with
  | some true=>(match Ae8 Z E EH run (EE m o.dst) o.op F h O with
   | some (v,h',O')=>Aj1 Z E EH m run r (C5 F o.dst v) h' O'
   | none=>none)
  | some false=>Aj1 Z E EH m run r (C5 F o.dst VV.nul) h O
  | none=>none
def A2r (Z:Nat×(List VV->Option VV)) (E EH:G7) (m:Nat->Nat) (run:A2w):List AL->LZ->A4->VH->NM->Option (A4×VH×NM)
 | [],_,F,h,O=>some (F,h,O)
 | s::r,L,F,h,O=>match CW F s.o.g with
  | some true=>(match Ae8 Z E EH run (EE m s.o.dst) s.o.op F h O with
   | some (v,h',O') =>
    bif MK (C5 F s.o.dst v) h' (DJ (EE m s.o.dst) s.o.dst s.o.op F h L) s.chk then
     A2r Z E EH m run r (DJ (EE m s.o.dst) s.o.dst s.o.op F h L) (C5 F s.o.dst v) h' O'
    else none
   | none=>none)
  | some false=>A2r Z E EH m run r (JL s.o.dst L) (C5 F s.o.dst VV.nul) h O
  | none=>none
abbrev Amf:=A2->A4->VH->NM->Option (Ex×A4×VH×NM)
def AfY (ex:(Nat->Nat)->Amf):A2w:=fun vf args h O =>
 match ex vf.m vf.af.body (Tm.ofList args) h O with
 | some (e,F',h',O')=>(match e with
  | .exit _=>none
  | _=>(match CV F' h' vf.af.results with | some vs=>some (LT vs,h',O') | none=>none))
 | none=>none
def D3 (Z:Nat×(List VV->Option VV)) (E EH:G7):Nat->(Nat->Nat)->Amf
 | 0,_,_,_,_,_=>none
 | n+1,m,c,F,h,O =>
  match c with
  | .skip=>some (.norm,F,h,O)
  | .reg ops=>(match Aj1 Z E EH m (AfY (D3 Z E EH n)) ops F h O with | some (F',h',O')=>some (.norm,F',h',O') | none=>none)
  | .dreg ops=>(match A2r Z E EH m (AfY (D3 Z E EH n)) ops [] F h O with | some (F',h',O')=>some (.norm,F',h',O') | none=>none)
  | .seq a b=>(match D3 Z E EH n m a F h O with
   | some (.norm,F',h',O')=>D3 Z E EH n m b F' h' O'
   | r=>r)
  | .cond c a b=>(match A4.ev F c with
   | .b true=>D3 Z E EH n m a F h O
   | .b false=>D3 Z E EH n m b F h O
   | _=>none)
  | .block id c=>(match D3 Z E EH n m c F h O with
   | some (.exit id',F',h',O')=>bif Nat.beq id' id then some (.norm,F',h',O') else some (.exit id',F',h',O')
   | r=>r)
  | .loop c=>(match D3 Z E EH n m c F h O with
   | some (.norm,F',h',O')=>bif Acd h.length h h' then D3 Z E EH n m (.loop c) (GD h.length F') (h'.take h.length) O' else bif AhR h.length h h' then D3 Z E EH n m (.loop c) F' h' O' else none
   | r=>r)
  | .exit id=>some (.exit id,F,h,O)
  | .ret=>some (.ret,F,h,O)
  | .fail=>none
section
variable (V:At)
def DQ (O:NM):Prop:=∀ a∈O,VP V a.g a.pa fun r=>r=a.r
structure LE (Z:Nat×(List VV->Option VV)) (E EH:G7):Prop where
 fn:∀ g vf,E g=some vf->V.fn g=some vf
 ext:∀ g vf,E g=some vf->V.ext g=none
 ctz:V.ext Z.1=some Z.2
 fnH:∀ g vf,EH g=some vf->V.fnH g=some vf
def Z9 (run:A2w):Prop:=∀ vf args h O v h' O',run vf args h O=some (v,h',O')->DQ V O->Vb V vf args h (fun v1 h1=>v1=v/\h1=h')/\DQ V O'
variable {V}
theorem DQ.nil:DQ V []:=fun _ h=>absurd h (List.not_mem_nil)
theorem DQ.cons {g:Nat} {pa:List VV} {r:VV} {O:NM} (h:VP V g pa fun x=>x=r) (hO:DQ V O):DQ V (⟨g,pa,r⟩::O):=by
 intro a ha
 rcases List.mem_cons.1 ha with e | e
 .subst e;exact h
 .exact hO _ e
theorem Ak3 {O:NM} {g:Nat} {pa:List VV} {r:VV} {O':NM} (e:AnQ O g pa=some (r,O')) (hO:DQ V O):(VP V g pa fun x=>x=r)/\DQ V O':=by
 cases O with
 | nil=>cases e
 | cons a O1 =>
  simp only [AnQ] at e
  cases hb:(Nat.beq a.g g && RP a.pa pa) with
  | false=>rw [hb] at e;cases e
  | true =>
   rw [hb] at e
   simp only [cond_true,Option.some.injEq,Prod.mk.injEq] at e
   obtain ⟨rfl,rfl⟩:=e
   rw [and_eq_true] at hb
   have:=hO a List.mem_cons_self
   rw [eq_of_beq_eq_true hb.1,JN _ _ hb.2] at this
   exact ⟨this,fun x hx=>hO x (List.mem_cons_of_mem _ hx)⟩
theorem AiZ {Z:Nat×(List VV->Option VV)} {E EH:G7} (hE:LE V Z E EH) {run:A2w} (hr:Z9 V run) {m g:Nat} {args:List VV} {h:VH} {O:NM} {v:VV} {h':VH} {O':NM} (e:AiY Z E EH run m g args h O=some (v,h',O')) (hO:DQ V O):VC V m g args h (fun v1 h1=>v1=v/\h1=h')/\DQ V O':=by
 unfold AiY at e
 unfold VC
 split at e
 .split at e
  .rename_i pa ids hp
   split at e
   .rename_i r O1 hh
    cases e
    obtain ⟨q1,q2⟩:=Ak3 hh hO
    exact ⟨⟨pa,ids,hp,q1.mono fun r hr=>by rw [hr];exact ⟨rfl,rfl⟩⟩,q2⟩
   .split at e
    .rename_i vf hf
     split at e
     .rename_i v2 h2 O2 hq
      split at e
      .rename_i r ids2 hz
       cases e
       obtain ⟨q1,q2⟩:=hr _ _ _ _ _ _ _ hq hO
       refine ⟨⟨pa,ids,hp,?_⟩,q2⟩
       unfold VP
       rw [hE.ext _ _ hf]
       refine ⟨vf,hE.fn _ _ hf,q1.mono ?_⟩
       rintro _ _ ⟨rfl,rfl⟩
       exact ⟨_,ids2,hz,rfl,rfl⟩
      .cases e
     .cases e
    .cases hb:Nat.beq g Z.1 with
     | false=>rw [hb] at e;cases e
     | true =>
      rw [hb] at e
      simp only [cond_true] at e
      split at e
      .rename_i v1 hv
       cases hs:scal v1 with
       | false=>rw [hs] at e;cases e
       | true =>
        rw [hs] at e
        simp only [cond_true,Option.some.injEq,Prod.mk.injEq] at e
        obtain ⟨rfl,rfl,rfl⟩:=e
        refine ⟨⟨pa,ids,hp,?_⟩,hO⟩
        unfold VP
        rw [eq_of_beq_eq_true hb,hE.ctz]
        exact ⟨_,hv,hs,rfl,by rw [hs];rfl⟩
      .cases e
  .cases e
 .split at e
  .rename_i vf hf
   split at e
   .rename_i pa ids hp
    split at e
    .rename_i v2 h2 O2 hq
     split at e
     .rename_i r T hT
      cases hb:(A1C T.moved && T.moved.all (fun id=>!(T.frozen.contains id))) with
      | false=>rw [hb] at e;cases e
      | true =>
       rw [hb] at e
       simp only [cond_true,Option.some.injEq,Prod.mk.injEq] at e
       obtain ⟨rfl,rfl,rfl⟩:=e
       rw [and_eq_true] at hb
       obtain ⟨q1,q2⟩:=hr _ _ _ _ _ _ _ hq hO
       refine ⟨⟨pa,ids,hp,vf,hE.fn _ _ hf,q1.mono ?_⟩,q2⟩
       rintro _ _ ⟨rfl,rfl⟩
       refine ⟨_,T,hT,⟨Afk hb.1,fun id hid hc=>?_⟩,rfl,rfl⟩
       have:=List.all_eq_true.1 hb.2 id hid
       rw [List.contains_iff_mem.2 hc] at this
       cases this
     .cases e
    .cases e
   .cases e
  .cases e
 .split at e
  .rename_i vf hf
   obtain ⟨q1,q2⟩:=hr _ _ _ _ _ _ _ e hO
   exact ⟨⟨vf,hE.fnH _ _ hf,q1⟩,q2⟩
  .cases e
 .rename_i m0 h0 h1' h2'
  split at e
  .rename_i vf hf
   split at e
   .rename_i v2 h2 O2 hq
    split at e
    .rename_i r ids hz
     cases hb:Acd h.length h (BL ids h2) with
     | false=>rw [hb] at e;cases e
     | true =>
      rw [hb] at e
      simp only [cond_true,Option.some.injEq,Prod.mk.injEq] at e
      obtain ⟨rfl,rfl,rfl⟩:=e
      obtain ⟨q1,q2⟩:=hr _ _ _ _ _ _ _ hq hO
      have:Hs V g args h (fun v1 h1=>v1=r/\h1=(BL ids h2).take h.length):=by
       refine ⟨vf,hE.fnH _ _ hf,q1.mono ?_⟩
       rintro _ _ ⟨rfl,rfl⟩
       exact ⟨_,ids,hz,AdD hb,rfl,rfl⟩
      rcases m with _ | _ | _ | m
      .exact absurd rfl h0
      .exact absurd rfl h1'
      .exact absurd rfl h2'
      .exact ⟨this,q2⟩
    .cases e
   .cases e
  .cases e
theorem Ab6 {Z:Nat×(List VV->Option VV)} {E EH:G7} (hE:LE V Z E EH) {run:A2w} (hr:Z9 V run) {m:Nat} {op:By} {F:A4} {h:VH} {O:NM} {v:VV} {h':VH} {O':NM} (e:Ae8 Z E EH run m op F h O=some (v,h',O')) (hO:DQ V O):Vo V m op F h (fun v1 h1=>v1=v/\h1=h')/\DQ V O':=by
 by_cases hc:∃ f args,op = .call f args
 .obtain ⟨f,args,rfl⟩:=hc
  simp only [Ae8] at e
  split at e
  .rename_i g a c hf
   cases hm:Nat.beq m 4 with
   | true=>rw [hm] at e;cases e
   | false =>
   rw [hm,cond_false] at e
   obtain ⟨q1,q2⟩:=AiZ hE hr e hO
   exact ⟨Z6 hf q1 (fun h=>by rw [h] at hm;cases hm),q2⟩
  .cases e
 .have hc':∀ f args,op≠.call f args:=fun f args h=>hc ⟨f,args,h⟩
  have e':(match DN m op F h with | some (v,h')=>some (v,h',O) | none=>none)=some (v,h',O'):=by
   cases op<;>first | exact e | exact absurd rfl (hc' _ _)
  split at e'
  .rename_i v1 h1 hv
   cases e'
   exact ⟨(Ame hc').2 ⟨_,_,hv,rfl,rfl⟩,hO⟩
  .cases e'
theorem Ama {Z:Nat×(List VV->Option VV)} {E EH:G7} (hE:LE V Z E EH) {run:A2w} (hr:Z9 V run) {m:Nat->Nat}:∀ {ops:List AI} {F:A4} {h:VH} {O:NM} {F':A4} {h':VH} {O':NM},Aj1 Z E EH m run ops F h O=some (F',h',O')->DQ V O->Vr V m ops F h (fun F1 h1=>F1=F'/\h1=h')/\DQ V O':=by
 intro ops
 induction ops with
 | nil =>
  intro F h O F' h' O' e hO
  cases e
  exact ⟨Z8.2 ⟨rfl,rfl⟩,hO⟩
 | cons o r ih =>
  intro F h O F' h' O' e hO
  simp only [Aj1] at e
  split at e
  .rename_i hw
   split at e
   .rename_i v h1 O1 hv
    obtain ⟨q1,q2⟩:=Ab6 hE hr hv hO
    obtain ⟨q3,q4⟩:=ih e q2
    refine ⟨?_,q4⟩
    rw [MM,hw]
    obtain ⟨n,v2,h2,e2,rfl,rfl⟩:=q1
    exact ⟨n,_,_,e2,q3⟩
   .cases e
  .rename_i hw
   obtain ⟨q3,q4⟩:=ih e hO
   refine ⟨?_,q4⟩
   rw [MM,hw]
   exact q3
  .cases e
theorem AfZ {Z:Nat×(List VV->Option VV)} {E EH:G7} (hE:LE V Z E EH) {run:A2w} (hr:Z9 V run) {m:Nat->Nat}:∀ {ops:List AL} {L:LZ} {F:A4} {h:VH} {O:NM} {F':A4} {h':VH} {O':NM},A2r Z E EH m run ops L F h O=some (F',h',O')->DQ V O->Vs V m ops L F h (fun F1 h1=>F1=F'/\h1=h')/\DQ V O':=by
 intro ops
 induction ops with
 | nil =>
  intro L F h O F' h' O' e hO
  cases e
  exact ⟨Agd.2 ⟨rfl,rfl⟩,hO⟩
 | cons o r ih =>
  intro L F h O F' h' O' e hO
  simp only [A2r] at e
  split at e
  .rename_i hw
   split at e
   .rename_i v h1 O1 hv
    cases hb:MK (C5 F o.o.dst v) h1 (DJ (EE m o.o.dst) o.o.dst o.o.op F h L) o.chk with
    | false=>rw [hb] at e;cases e
    | true =>
     rw [hb] at e
     obtain ⟨q1,q2⟩:=Ab6 hE hr hv hO
     obtain ⟨q3,q4⟩:=ih e q2
     refine ⟨?_,q4⟩
     rw [Ys,hw]
     obtain ⟨n,v2,h2,e2,rfl,rfl⟩:=q1
     exact ⟨n,_,_,e2,Ab7 hb,q3⟩
   .cases e
  .rename_i hw
   obtain ⟨q3,q4⟩:=ih e hO
   refine ⟨?_,q4⟩
   rw [Ys,hw]
   exact q3
  .cases e
theorem E9 {m:Nat->Nat} {c:A2} {F:A4} {h:VH} {e:Ex} {F':A4} {h':VH} (k:Vc V m c F h fun e1 F1 h1=>e1=e/\F1=F'/\h1=h'):∃ n,AF V n m c F h=some (e,F',h'):=by
 obtain ⟨n,e1,F1,h1,q,rfl,rfl,rfl⟩:=k
 exact ⟨n,q⟩
theorem Aj0 {Z:Nat×(List VV->Option VV)} {E EH:G7} (hE:LE V Z E EH):∀ (n:Nat),(∀ {m:Nat->Nat} {c:A2} {F:A4} {h:VH} {O:NM} {e:Ex} {F':A4} {h':VH} {O':NM},D3 Z E EH n m c F h O=some (e,F',h',O')->DQ V O->Vc V m c F h (fun e1 F1 h1=>e1=e/\F1=F'/\h1=h')/\DQ V O')/\Z9 V (AfY (D3 Z E EH n)):=by
 intro n
 induction n with
 | zero =>
  refine ⟨fun e=>by simp [D3] at e,fun vf args h O v h' O' e=>by simp [AfY,D3] at e⟩
 | succ n ih =>
  obtain ⟨ih,hR⟩:=ih
  have H:∀ {m:Nat->Nat} {c:A2} {F:A4} {h:VH} {O:NM} {e:Ex} {F':A4} {h':VH} {O':NM},D3 Z E EH (n+1) m c F h O=some (e,F',h',O')->DQ V O->Vc V m c F h (fun e1 F1 h1=>e1=e/\F1=F'/\h1=h')/\DQ V O':=by
   intro m c F h O e F' h' O' k hO
   cases c with
   | skip=>simp only [D3,Option.some.injEq,Prod.mk.injEq] at k;obtain ⟨rfl,rfl,rfl,rfl⟩:=k;exact ⟨⟨1,_,_,_,rfl,rfl,rfl,rfl⟩,hO⟩
   | exit id=>simp only [D3,Option.some.injEq,Prod.mk.injEq] at k;obtain ⟨rfl,rfl,rfl,rfl⟩:=k;exact ⟨⟨1,_,_,_,rfl,rfl,rfl,rfl⟩,hO⟩
   | ret=>simp only [D3,Option.some.injEq,Prod.mk.injEq] at k;obtain ⟨rfl,rfl,rfl,rfl⟩:=k;exact ⟨⟨1,_,_,_,rfl,rfl,rfl,rfl⟩,hO⟩
   | fail=>simp [D3] at k
   | reg ops =>
    simp only [D3] at k
    split at k
    .rename_i F1 h1 O1 hr
     cases k
     obtain ⟨⟨j,F2,h2,e2,rfl,rfl⟩,q2⟩:=Ama hE hR hr hO
     exact ⟨⟨j+1,.norm,_,_,by simp only [AF,e2],rfl,rfl,rfl⟩,q2⟩
    .cases k
   | dreg ops =>
    simp only [D3] at k
    split at k
    .rename_i F1 h1 O1 hr
     cases k
     obtain ⟨⟨j,F2,h2,e2,rfl,rfl⟩,q2⟩:=AfZ hE hR hr hO
     exact ⟨⟨j+1,.norm,_,_,by simp only [AF,e2],rfl,rfl,rfl⟩,q2⟩
    .cases k
   | seq a b =>
    simp only [D3] at k
    cases ha:D3 Z E EH n m a F h O with
    | none=>rw [ha] at k;cases k
    | some y =>
     obtain ⟨e1,F1,h1,O1⟩:=y
     rw [ha] at k
     obtain ⟨q1,q2⟩:=ih ha hO
     obtain ⟨j,q1⟩:=E9 q1
     cases e1 with
     | norm =>
      obtain ⟨q3,q4⟩:=ih k q2
      obtain ⟨i,q3⟩:=E9 q3
      refine ⟨⟨max j i+1,e,F',h',?_,rfl,rfl,rfl⟩,q4⟩
      simp only [AF,CG (Nat.le_max_left j i) q1]
      exact CG (Nat.le_max_right j i) q3
     | exit id=>cases k;exact ⟨⟨j+1,_,_,_,by simp only [AF,q1],rfl,rfl,rfl⟩,q2⟩
     | ret=>cases k;exact ⟨⟨j+1,_,_,_,by simp only [AF,q1],rfl,rfl,rfl⟩,q2⟩
   | cond x a b =>
    simp only [D3] at k
    split at k
    .rename_i hx
     obtain ⟨q1,q2⟩:=ih k hO
     obtain ⟨j,q1⟩:=E9 q1
     exact ⟨⟨j+1,_,_,_,by simp only [AF,hx];exact q1,rfl,rfl,rfl⟩,q2⟩
    .rename_i hx
     obtain ⟨q1,q2⟩:=ih k hO
     obtain ⟨j,q1⟩:=E9 q1
     exact ⟨⟨j+1,_,_,_,by simp only [AF,hx];exact q1,rfl,rfl,rfl⟩,q2⟩
    .cases k
   | block id c =>
    simp only [D3] at k
    cases ha:D3 Z E EH n m c F h O with
    | none=>rw [ha] at k;cases k
    | some y =>
     obtain ⟨e1,F1,h1,O1⟩:=y
     rw [ha] at k
     obtain ⟨q1,q2⟩:=ih ha hO
     obtain ⟨j,q1⟩:=E9 q1
     cases e1 with
     | norm=>cases k;exact ⟨⟨j+1,_,_,_,by simp only [AF,q1],rfl,rfl,rfl⟩,q2⟩
     | ret=>cases k;exact ⟨⟨j+1,_,_,_,by simp only [AF,q1],rfl,rfl,rfl⟩,q2⟩
     | exit id' =>
      simp only at k
      cases hb:Nat.beq id' id with
      | true=>rw [hb] at k;cases k;exact ⟨⟨j+1,_,_,_,by simp only [AF,q1,hb,cond_true],rfl,rfl,rfl⟩,q2⟩
      | false=>rw [hb] at k;cases k;exact ⟨⟨j+1,_,_,_,by simp only [AF,q1,hb,cond_false],rfl,rfl,rfl⟩,q2⟩
   | loop c =>
    simp only [D3] at k
    cases ha:D3 Z E EH n m c F h O with
    | none=>rw [ha] at k;cases k
    | some y =>
     obtain ⟨e1,F1,h1,O1⟩:=y
     rw [ha] at k
     obtain ⟨q1,q2⟩:=ih ha hO
     obtain ⟨j,q1⟩:=E9 q1
     cases e1 with
     | norm =>
      simp only at k
      cases hb:Acd h.length h h1 with
      | false =>
       rw [hb] at k
       simp only [cond_false] at k
       cases hb2:AhR h.length h h1 with
       | false=>rw [hb2] at k;cases k
       | true =>
        rw [hb2] at k
        obtain ⟨q3,q4⟩:=ih k q2
        obtain ⟨i,q3⟩:=E9 q3
        refine ⟨⟨max j i+1,e,F',h',?_,rfl,rfl,rfl⟩,q4⟩
        simp only [AF,CG (Nat.le_max_left j i) q1]
        rw [if_neg (AlA hb2)]
        exact CG (Nat.le_max_right j i) q3
      | true =>
       rw [hb] at k
       obtain ⟨q3,q4⟩:=ih k q2
       obtain ⟨i,q3⟩:=E9 q3
       refine ⟨⟨max j i+1,e,F',h',?_,rfl,rfl,rfl⟩,q4⟩
       simp only [AF,CG (Nat.le_max_left j i) q1]
       rw [if_pos (AdD hb)]
       exact CG (Nat.le_max_right j i) q3
     | exit id=>cases k;exact ⟨⟨j+1,_,_,_,by simp only [AF,q1],rfl,rfl,rfl⟩,q2⟩
     | ret=>cases k;exact ⟨⟨j+1,_,_,_,by simp only [AF,q1],rfl,rfl,rfl⟩,q2⟩
  refine ⟨H,?_⟩
  intro vf args h O v h' O' e hO
  unfold AfY at e
  split at e
  .rename_i e1 F1 h1 O1 hr
   obtain ⟨q1,q2⟩:=H hr hO
   obtain ⟨j,q1⟩:=E9 q1
   cases e1 with
   | exit id=>cases e
   | norm =>
    simp only at e
    split at e
    .rename_i vs hvs;cases e;exact ⟨⟨j,_,_,by simp only [JD,q1,hvs],rfl,rfl⟩,q2⟩
    .cases e
   | ret =>
    simp only at e
    split at e
    .rename_i vs hvs;cases e;exact ⟨⟨j,_,_,by simp only [JD,q1,hvs],rfl,rfl⟩,q2⟩
    .cases e
  .cases e
def A7V (Z:Nat×(List VV->Option VV)) (E EH:G7) (n:Nat) (vf:HE) (args:List VV) (O:NM) (r:VV):Bool :=
 match AfY (D3 Z E EH n) vf args [] O with
 | some (v,h2,_)=>(match frz h2 dF v with
  | some (r',_)=>eqV r' r
  | none=>false)
 | none=>false
theorem A8e {Z:Nat×(List VV->Option VV)} {E EH:G7} (hE:LE V Z E EH) {g:Nat} {af:A3} {mm:Nat->Nat} {args:List VV} {O:NM} {r:VV} (n:Nat) (hx:V.ext g=none) (hf:V.fn g=some ⟨af,mm⟩) (hO:DQ V O) (h:A7V Z E EH n ⟨af,mm⟩ args O r=true):VP V g args fun x=>x=r:=by
 unfold A7V at h
 split at h
 .rename_i v h2 O1 hr
  split at h
  .rename_i r' ids hz
   have q:=((Aj0 hE n).2 _ _ _ _ _ _ _ hr hO).1
   unfold VP
   rw [hx]
   exact ⟨_,hf,q.mono fun v1 h1 ⟨e1,e2⟩=>⟨r',ids,by rw [e1,e2];exact hz,AbE _ _ h⟩⟩
  .cases h
 .cases h
end
end Go.AM
namespace Go.AM
def VA (V:At) (a:GK):Prop:=VP V a.g a.pa fun x=>x=a.r
def sel (k:Nat) (a b:G7):G7:=fun g=>bif Nat.blt g k then a g else b g
def leaf (n:Nat) (vf:HE):G7:=fun g=>bif Nat.beq g n then some vf else none
def Abf (V:At) (E:G7):Prop:=∀ g vf,E g=some vf->V.ext g=none/\V.fn g=some vf
def Abe (V:At) (E:G7):Prop:=∀ g vf,E g=some vf->V.fnH g=some vf
section
variable {V:At}
theorem Abf.sel {k:Nat} {a b:G7} (ha:Abf V a) (hb:Abf V b):Abf V (sel k a b):=by
 intro g vf e
 unfold AM.sel at e
 cases h:Nat.blt g k with
 | true=>rw [h] at e;exact ha _ _ e
 | false=>rw [h] at e;exact hb _ _ e
theorem Abe.sel {k:Nat} {a b:G7} (ha:Abe V a) (hb:Abe V b):Abe V (sel k a b):=by
 intro g vf e
 unfold AM.sel at e
 cases h:Nat.blt g k with
 | true=>rw [h] at e;exact ha _ _ e
 | false=>rw [h] at e;exact hb _ _ e
theorem Abf.leaf {n:Nat} {vf:HE} (h:V.ext n=none/\V.fn n=some vf):Abf V (leaf n vf):=by
 intro g vf' e
 unfold AM.leaf at e
 cases hb:Nat.beq g n with
 | true=>rw [hb] at e;cases e;rw [eq_of_beq_eq_true hb];exact h
 | false=>rw [hb] at e;cases e
theorem Abe.leaf {n:Nat} {vf:HE} (h:V.fnH n=some vf):Abe V (leaf n vf):=by
 intro g vf' e
 unfold AM.leaf at e
 cases hb:Nat.beq g n with
 | true=>rw [hb] at e;cases e;rw [eq_of_beq_eq_true hb];exact h
 | false=>rw [hb] at e;cases e
theorem LE.of {Z:Nat×(List VV->Option VV)} {E EH:G7} (h1:Abf V E) (h2:Abe V EH) (h3:V.ext Z.1=some Z.2):LE V Z E EH:=⟨fun g vf e=>(h1 g vf e).2,fun g vf e=>(h1 g vf e).1,h3,h2⟩
theorem Bl {Z:Nat×(List VV->Option VV)} {E EH:G7} (hE:LE V Z E EH) {a:GK} {af:A3} {mm:Nat->Nat} (hx:V.ext a.g=none) (hf:V.fn a.g=some ⟨af,mm⟩) {O:NM} (hO:DQ V O) (h:A7V Z E EH 5000 ⟨af,mm⟩ a.pa O a.r=true):VA V a:=A8e hE 5000 hx hf hO h
end
end Go.AM
namespace Go.AM
open Go
def HK (A:E8) (tz:Nat) (mu muH:Nat->Nat->Nat):At where
 fn g:=match A.ext g with | some _=>none | none=>(A.fn g).map fun af=>⟨af,mu g⟩
 fnH g:=match A.ext g with | some _=>none | none=>(A.fn g).map fun af=>⟨af,muH g⟩
 ext g:=bif Nat.beq g tz then some A7P else none
theorem AcD {A:E8} {tz:Nat} {mu muH:Nat->Nat->Nat} (h:A.ext tz=some ctzX):Z4 (HK A tz mu muH) A where
 fn g vf e:=by
  unfold HK at e
  simp only at e
  cases hx:A.ext g with
  | some x=>rw [hx] at e;cases e
  | none =>
   rw [hx] at e
   simp only [Option.map_eq_some_iff] at e
   obtain ⟨af,h1,h2⟩:=e
   subst h2
   exact ⟨rfl,h1⟩
 fnH g vf e:=by
  unfold HK at e
  simp only at e
  cases hx:A.ext g with
  | some x=>rw [hx] at e;cases e
  | none =>
   rw [hx] at e
   simp only [Option.map_eq_some_iff] at e
   obtain ⟨af,h1,h2⟩:=e
   subst h2
   exact ⟨rfl,h1⟩
 ext g x e:=by
  unfold HK at e
  simp only at e
  cases hb:Nat.beq g tz with
  | false=>rw [hb] at e;cases e
  | true =>
   rw [hb] at e
   cases e
   rw [eq_of_beq_eq_true hb]
   refine ⟨_,h,?_⟩
   intro Z pa ws σ v hv hx hs
   obtain ⟨hl,hp⟩:=hv
   unfold A7P at hx
   split at hx
   .rename_i n
    split at hx
    .rename_i hn
     cases hx
     obtain ⟨w,rfl⟩:∃ w,ws=[w]:=by
      cases ws with
      | nil=>cases hl
      | cons w ws=>cases ws with
       | nil=>exact ⟨w,rfl⟩
       | cons _ _=>cases hl
     have hw:=hp 0 _ _ rfl rfl
     cases hw
     refine ⟨.i .i64 (Ajy n.toNat:Nat),?_,?_⟩
     .unfold ctzX
      have h1:(Aa3 .u64 && Nat.blt n.toNat 18446744073709551616 && Adn n)=true:=by
       obtain ⟨m,rfl⟩:=Int.eq_ofNat_of_zero_le hn.1
       simp only [Aa3,Bool.true_and,and_eq_true,Nat.blt_eq,Int.ofNat_eq_natCast,Int.toNat_natCast]
       exact ⟨by omega,rfl⟩
      simp only [h1,cond_true]
     .rw [Ad2 _ (by omega)]
      exact .i _ _ _
    .cases hx
   .cases hx
theorem Am {A:E8} {tz g:Nat} {mu muH:Nat->Nat->Nat} {af:A3} {m:Nat->Nat} (h:A.ext g=none/\A.fn g=some af) (hne:Nat.beq g tz=false) (hm:mu g=m):(HK A tz mu muH).ext g=none/\(HK A tz mu muH).fn g=some ⟨af,m⟩:=by
 unfold HK
 simp only [h.1,h.2,hne,hm,cond_false,Option.map_some,and_self]
theorem Em {A:E8} {tz g:Nat} {mu muH:Nat->Nat->Nat} {af:A3} {m:Nat->Nat} (h:A.ext g=none/\A.fn g=some af) (hm:muH g=m):(HK A tz mu muH).fnH g=some ⟨af,m⟩:=by
 unfold HK
 simp only [h.1,h.2,hm,Option.map_some]
theorem AxM {A:E8} {tz:Nat} {mu muH:Nat->Nat->Nat}:(HK A tz mu muH).ext tz=some A7P:=by
 unfold HK
 have:Nat.beq tz tz=true:=Nat.beq_refl tz
 simp only [this,cond_true]
theorem AjX {h:VH} {d:Nat} {v:VV} {b:Bool} {ids:List Nat} (e:frz h d v=some (.b b,ids)):v = .b b:=by
 cases d with
 | zero=>cases e
 | succ d =>
  cases v with
  | b x=>cases e;rfl
  | p id ver r c =>
   simp only [frz] at e
   split at e
   .split at e
    .split at e<;>cases e
    .cases e
   .cases e
  | sl id ver off n =>
   simp only [frz] at e
   split at e
   .rename_i o ho
    generalize (Nat.ble (off+n) o.rows.length && (Nat.blt 0 o.esz || o.nl))=c at e
    cases c with
    | false=>cases e
    | true =>
     simp only [cond_true] at e
     split at e<;>cases e
   .cases e
  | f g a c =>
   simp only [frz] at e
   split at e<;>cases e
  | ag cs =>
   simp only [frz] at e
   split at e<;>cases e
  | tu cs =>
   simp only [frz] at e
   split at e<;>cases e
  | un=>cases e
  | i k n=>cases e
  | s x=>cases e
  | nf=>cases e
  | np=>cases e
  | nl=>cases e
  | fp cs c=>cases e
  | ls rows=>cases e
theorem Alg {V:At} {A:E8} (fit:Z4 V A) {g:Nat} {pa:List VV} (hx:V.ext g=none) {b:Bool} (h:VP V g pa fun r=>r = .b b) {Z:C6} {ρ:Bf} {σ:St} {ws:List AV} (H:HR Z ρ [] σ) (hv:CQ Z ρ pa ws):∃ N σ',call A N g ws σ=some (.b b,σ'):=by
 unfold VP at h
 rw [hx] at h
 obtain ⟨vf,h1,n,v,h2,h3,r,ids,h4,h5⟩:=h
 subst h5
 have hvb:v = .b b:=AjX h4
 subst hvb
 obtain ⟨N,w,σ',Z',ρ',k1,k2,k3,k4⟩:=Aia (AjM fit n) _ _ _ _ _ h3 _ _ _ _ H hv
 obtain ⟨q1,q2⟩:=fit.fn _ _ h1
 cases k3
 exact ⟨N,σ',by rw [GO q1 q2];exact k1⟩
theorem hr0:HR (fun _=>none) ρ0 [] σ0 where
 nd id h:=AeL id
 zs id ob h:=by cases h
 live i o h:=by simp at h
 nils i o h:=by simp at h
 inj i j o o' rid e e' h:=by simp at h
 dom id ver x h:=by cases h
 rdom id ver rid e h:=by cases h
 vers i o ver x h:=by simp at h
end Go.AM
namespace Go.AM
open Go Go.Proofs Go.RowKit Go.Shelf
theorem AhB {α β:Type} {f:α->Option β}:∀ {l:List α} {xs:List β},l.mapM f=some xs->∀ (j:Nat) (a:α),l[j]? = some a->∃ y,f a=some y/\xs[j]? = some y:=by
 intro l
 induction l with
 | nil=>intro xs _ j a h;simp at h
 | cons b l ih =>
  intro xs h j a hj
  rw [List.mapM_cons] at h
  simp only [Option.bind_eq_bind,Option.bind_eq_some_iff,Option.pure_def,Option.some.injEq] at h
  obtain ⟨y,h1,ys,h2,rfl⟩:=h
  cases j with
  | zero=>simp only [List.getElem?_cons_zero,Option.some.injEq] at hj;subst hj;exact ⟨y,h1,rfl⟩
  | succ j=>simp only [List.getElem?_cons_succ] at hj ⊢;exact ih h2 j a hj
theorem Aa2 {H:Type} {enc:TypeId×Value->H} {P:Program} {w:World} {base:Nat} {sp:Nat->Bool} {held:Bool} {fuel:Nat} {t:TypeId} {k:IntKind} {c:Value} {y:DataW H×List MemPlace}
  (ht:P.underlying t=some (.int k)) (h:DataW.trod enc P w base sp held fuel t [c]=some y):∃ n,c = .int k n/\y=(.lit (.int k n),[]):=by
 cases fuel with
 | zero=>simp [DataW.trod] at h
 | succ fuel =>
  cases c<;>simp [DataW.trod,ht] at h
  rename_i k' n
  obtain ⟨⟨rfl,_⟩,rfl⟩:=h
  exact ⟨n,rfl,rfl⟩
theorem tab_of_laid {P:Program} {W:World} {nm:String} {g t e n:Nat} {tab:List Nat} (hg:P.globalNamed nm=some g) (ht:(P.globals[g]?).map (·.type)=some t) (hu:P.underlying t=some (.array n e)) (hc:P.cellsOf t=n) (hce:P.cellsOf e=1) (hue:P.underlying e=some (.int .u8)) (hn:tab.length=n)
  (h:laidMet P [(nm,.agg (tab.map fun (x:Nat)=>(DataW.lit (Lit.int .u8 (x:Int)):DataW Unit)))] W):TabAt g tab W:=by
 obtain ⟨ps,⟨g',t',cs,fuel,p,q,hg',ht',hvar,hd,_,_⟩,_⟩:=h
 obtain rfl:=Option.some.inj (hg.symm.trans hg')
 obtain rfl:=Option.some.inj (ht.symm.trans ht')
 intro j hj
 rw [World.var?_cell hg hvar j]
 cases fuel with
 | zero=>simp [DataW.trod] at hd
 | succ fuel =>
  simp only [DataW.trod,hu,hc,hce] at hd
  split at hd
  .rename_i hl
   simp only [Option.map_eq_some_iff] at hd
   obtain ⟨xs,hm,hx⟩:=hd
   simp only [Prod.mk.injEq,DataW.agg.injEq] at hx
   have hjn:j < n:=by omega
   obtain ⟨y,h1,h2⟩:=AhB hm j j (by simp [hjn])
   have hlen:j < cs.toList.length:=by omega
   have e1:((cs.toList.drop (j * 1)).take 1)=[cs.toList[j]]:=by
    rw [Nat.mul_one,List.drop_eq_getElem_cons hlen];rfl
   rw [e1] at h1
   obtain ⟨z,h3,h4⟩:=Aa2 hue h1
   have h5:(xs.map (·.1))[j]? = some (.lit (.int .u8 z)):=by rw [List.getElem?_map,h2,h4];rfl
   rw [hx.1,List.getElem?_map] at h5
   have h6:tab[j]? = some (tab.getD j 0):=by simp [hj]
   rw [h6] at h5
   simp only [Option.map_some,Option.some.injEq,DataW.lit.injEq,Lit.int.injEq,true_and] at h5
   have h7:cs[j]? = some cs.toList[j]:=by
    have hj2:j < cs.size:=by simpa using hlen
    rw [Array.getElem?_eq_getElem hj2];simp
   rw [h7,h3,h5]
  .cases hd
theorem Apn {W:World} {g:Nat} (h:TabAt g Lib.deBruijn64tab W):g < W.heap.size:=by
 have:=h 0 (by decide)
 apply Classical.byContradiction
 intro hg
 have hn:W.heap[g]? = none:=Array.getElem?_eq_none (by omega)
 simp only [World.cell?,hn] at this
 cases this
end Go.AM
