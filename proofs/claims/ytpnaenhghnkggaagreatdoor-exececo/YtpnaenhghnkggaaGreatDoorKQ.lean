/-
  Own work, part of the proof of these laws: what functions compute.
-/
import Derived.Test.YtpnaenhghnkggaaGreatDoorKP
set_option maxRecDepth 10000
set_option maxHeartbeats 64000000
set_option linter.unusedVariables false
set_option linter.unusedSimpArgs false
set_option linter.unusedSectionVars false
namespace Go.AM
open Go Go.Proofs
theorem A03 (e:AT):vOf (some e) = .tu [vEx e,.b true]:=rfl
theorem A5P {n:Nat} {p:Nat->Nat->Bool} {a b:Nat} (hn:n<=64) (ha:a < n) (hb:b < n):(decide ((0:Int)<=(a:Int)) && decide ((a:Int) < ((Ax n p).length:Int)) && BG ((Ax n p).getD ((a:Int).toNat) 0#64) (b:Int))=p a b:=by
 rw [AJ,decide_eq_true (show (0:Int)<=(a:Int) by omega),decide_eq_true (show (a:Int) < (n:Int) by omega),Int.toNat_natCast,LL hn ha hb];rfl
theorem A64 {t:A1} (ht:A5 t) {s:A8} {mem:List Int} {k:Nat} (W:WI t s mem k) (P:WkP t s):Zw t s s.has=some (Bh s)/\s.has≠[]/\s.has.length<=1000/\KZ s/\RR t (Bh s)=true :=
 ⟨Adb ht W.form (fun loc c hc=>by
  by_cases hl:loc < s.mo.length
  .exact W.sing hl c hc
  .rw [List.getD_eq_getElem?_getD,List.getElem?_eq_none (by omega)] at hc
   simp at hc),fun h=>by have:=W.ne ht;rw [h] at this;simp at this,(W.gr.sz ht (by have:=W.k64 ht;omega)).has,W.gr.sz ht (by have:=W.k64 ht;omega),A3E ht W⟩
section
variable {V:Ae} (C:Ai V)
include C
theorem Kn (t:A1) (ht:A5 t) (l:List U8) (hl:l.length<=1000/\∀ x∈l,x.n < 256):VP V A53 [vT t,lU l] fun v=>∃ s mem k,v = .tu [LX s,.b true,lI mem]/\WI t s mem k/\WkP t s:=by
 rw [Ab C.c_z17.1 C.c_z17.2]
 simp only [A8A,go_sem,↓reduceIte]
 refine Vq C t ht (P:=WkP t) (Agz ht) (fun s s1 s2 u to mem out hf hu hP hst hif hf1 w2=>Aax ht hf hu hP hst hif hf1 w2) l hl (fun s mem k at_ W S h hA=>?_)
 simp only [go_sem,↓reduceIte]
 exact ⟨s,mem,rfl,k,W,hA⟩
theorem law_ExecWalked (hb:∀ Q:VV->Prop,VP V Zk [] Q↔Q (.b true)) (l m:List U8) (hl:∀ x∈l,x.n < 256) (hm:∀ x∈m,x.n < 256) :
  VP V Agb [lU l,lU m] fun x=>x = .b true:=by
 rw [Ab C.c_z2.1 C.c_z2.2]
 by_cases c1:(30:Int) < l.length
 .simp only [A8D,go_sem,↓reduceIte,hb,c1]
 by_cases c2:(40:Int) < m.length
 .simp only [A8D,go_sem,↓reduceIte,hb,c1,c2]
 obtain ⟨_,⟨t,ok,rfl,ht⟩,qT⟩:=CU (Lu C l ⟨by omega,hl⟩)
 cases ok with
 | false=>simp only [A8D,go_sem,↓reduceIte,hb,c1,c2,qT]
 | true =>
 have ht:=(ht rfl).1
 have hn:=ht.n64
 obtain ⟨_,⟨s,hp,k,rfl,W,P⟩,qW⟩:=CU (Kn C t ht m ⟨by omega,hm⟩)
 obtain ⟨o1,o2,o3,hs,hX⟩:=A64 ht W P
 have h0:=AdX ht W
 have qO:=fun (Q:VV->Prop)=>RK C t ht s hs s.has o3 o2 (Q:=Q)
 simp only [o1,A03] at qO
 have qE:=fun (Q:VV->Prop)=>Z8 C s hs (fun l hl c hc=>by
  obtain ⟨i,hi,rfl⟩:=List.getElem_of_mem hl
  have hd:s.mo[i]=s.mo.getD i []:=by rw [List.getD_eq_getElem?_getD,List.getElem?_eq_getElem hi];rfl
  rw [hd] at hc
  exact W.sing hi c hc) (Q:=Q)
 have X:=A63 ht W P
 have wg:=A7z ht W P
 have wa:=(A09 ht W P).1
 have wo:=fun a b=>AaW ht W P (a:=a) (b:=b)
 obtain ⟨e,he⟩:∃ e,e=Bh s:=⟨_,rfl⟩
 rw [<- he] at qO qE h0 X wg wa hX
 simp only [<- he] at wo
 have g1:=h0.has
 have g2:=h0.rf
 have qG:=fun (Q:VV->Prop)=>YA C ht e h0 (Q:=Q)
 have qA:=fun (Q:VV->Prop)=>QW C ht e h0 (Q:=Q)
 have qS:=fun (Q:VV->Prop)=>Mt C e h0 (Q:=Q)
 have hh:=fun (Q:VV->Prop)=>P8 C ht e h0 (Q:=Q)
 have qH:=fun (Q:VV->Prop)=>K9 C t ht e.has e.rf (by omega) (by omega) (Q:=Q)
 rw [wg] at qG
 rw [wa] at qA
 rw [hX,if_pos rfl,Np ht e] at hh
 rw [A9n hX,JX ht e] at qH
 have qR:=fun (p:Nat->Nat->Bool) (a b:Nat) (ha:a < t.nodes.length) (hb:b < t.nodes.length) (Q:VV->Prop)=>(S4 C (Ax t.nodes.length p) (CM hn p) (a:Int) (b:Int) (Q:=Q)).trans (by rw [A5P hn ha hb])
 obtain ⟨E,hE⟩:∃ E,E=Ax t.nodes.length (ecE t e):=⟨_,rfl⟩
 obtain ⟨H,hH⟩:∃ H,H=Ax t.nodes.length (hbE t e):=⟨_,rfl⟩
 have ho:=qR (ecE t e)
 have hj:=qR (hbE t e)
 rw [<- hE] at hh ho
 rw [<- hH] at qH hj
 simp only [A8D,go_sem,↓reduceIte,hb,c1,c2,qT,qW,qO,qG,qA,qE,qS,hh,qH]
 refine Al (by decide) e.has.length (by omega) (I:=fun i F h=>A2.tmp F 10 = .p 2 0 0 0/\A2.tmp F 12=lW E/\A2.tmp F 13=lW H/\h=[some ⟨G7,0,0,false,[eT t]⟩,some ⟨BE,0,0,false,[XV s]⟩,some ⟨D4,0,0,false,[eEx e]⟩]) ?_ ?_ ?_ 0 _ _ (Nat.zero_le _) ?_ ?_
 .rintro i F h hi hf ⟨h1,h2,h3,rfl⟩
  simp only [go_sem,↓reduceIte,hf,h1,h2,h3,List.length_map]
 .rintro i F h hi hf ⟨h1,h2,h3,rfl⟩
  have gA:=Ar hi
  obtain ⟨a,ea,h9⟩:=Aa (X.ok.node _ (Af (d:=0) hi))
  rw [ea] at gA
  simp only [go_sem,↓reduceIte,hf,h1,h2,h3,A0]
  refine Al (by decide) e.has.length (by omega) (I:=fun k F h=>A2.tmp F 14 = .i .i64 i/\A2.tmp F 10 = .p 2 0 0 0/\A2.tmp F 12=lW E/\A2.tmp F 13=lW H/\h=[some ⟨G7,0,0,false,[eT t]⟩,some ⟨BE,0,0,false,[XV s]⟩,some ⟨D4,0,0,false,[eEx e]⟩]) ?_ ?_ ?_ 0 _ _ (Nat.zero_le _) ?_ ?_
  .rintro k F h hk hg ⟨h7,h4,h5,h6,rfl⟩
   simp only [go_sem,↓reduceIte,hg,h7,h4,h5,h6,List.length_map]
  .rintro k F h hk hg ⟨h7,h4,h5,h6,rfl⟩
   have gB:=Ar hk
   obtain ⟨b,eb,h8⟩:=Aa (X.ok.node _ (Af (d:=0) hk))
   rw [eb] at gB
   have q1:=hj a b h9 h8
   have q2:=ho b a h8 h9
   have q3:=hj b a h8 h9
   cases d:hbE t e a b with
   | false =>
    rw [d] at q1
    simp only [go_sem,↓reduceIte,hg,h7,h4,h5,h6,gA,hi,gB,hk,q1,A0]
   | true =>
    obtain ⟨w1,w2⟩:=wo a b ((GK ht e h9).1 d)
    have z2:ecE t e b a=false:=by rw [Bool.eq_false_iff];exact fun h=>w1 ((GI ht e h8).1 h)
    have z3:hbE t e b a=false:=by rw [Bool.eq_false_iff];exact fun h=>w2 ((GK ht e h8).1 h)
    rw [d] at q1
    rw [z2] at q2
    rw [z3] at q3
    simp only [go_sem,↓reduceIte,hg,h7,h4,h5,h6,gA,hi,gB,hk,q1,q2,q3,A0]
  .rintro F h ⟨h7,h4,h5,h6,rfl⟩
   simp only [go_sem,↓reduceIte,h7,h4,h5,h6]
  .simp only [go_sem,↓reduceIte]
  .simp only [go_sem,↓reduceIte,hf,h1,h2,h3]
 .rintro F h ⟨h1,h2,h3,rfl⟩
  simp only [go_sem,↓reduceIte,h1,h2,h3]
 .simp only [go_sem,↓reduceIte]
 .simp only [go_sem,↓reduceIte]
theorem law_ExecEco (hb:∀ Q:VV->Prop,VP V Zk [] Q↔Q (.b true)) (l m:List U8) (hl:∀ x∈l,x.n < 256) (hm:∀ x∈m,x.n < 256) :
  VP V Agc [lU l,lU m] fun x=>x = .b true:=by
 rw [Ab C.c_z3.1 C.c_z3.2]
 by_cases c1:(30:Int) < l.length
 .simp only [A8L,go_sem,↓reduceIte,hb,c1]
 by_cases c2:(40:Int) < m.length
 .simp only [A8L,go_sem,↓reduceIte,hb,c1,c2]
 obtain ⟨_,⟨t,ok,rfl,ht⟩,qT⟩:=CU (Lu C l ⟨by omega,hl⟩)
 cases ok with
 | false=>simp only [A8L,go_sem,↓reduceIte,hb,c1,c2,qT]
 | true =>
 have ht:=(ht rfl).1
 have hu:=ht.n64
 obtain ⟨_,⟨s,q0,k,rfl,W,P⟩,qW⟩:=CU (Kn C t ht m ⟨by omega,hm⟩)
 obtain ⟨o1,o2,o3,hs,hX⟩:=A64 ht W P
 have hp:=AdX ht W
 have qO:=fun (Q:VV->Prop)=>RK C t ht s hs s.has o3 o2 (Q:=Q)
 simp only [o1,A03] at qO
 have X:=A63 ht W P
 have wo:=fun a b=>AaV ht W P (a:=a) (b:=b)
 obtain ⟨e,he⟩:∃ e,e=Bh s:=⟨_,rfl⟩
 rw [<- he] at qO hp X hX
 simp only [<- he] at wo
 have g1:=hp.has
 have hr:=fun (Q:VV->Prop)=>P8 C ht e hp (Q:=Q)
 rw [hX,if_pos rfl,Np ht e] at hr
 have qR:=fun (a b:Nat) (ha:a < t.nodes.length) (hb:b < t.nodes.length) (Q:VV->Prop)=>(S4 C (Ax t.nodes.length (ecE t e)) (CM hu _) (a:Int) (b:Int) (Q:=Q)).trans (by rw [A5P hu ha hb])
 obtain ⟨E,hE⟩:∃ E,E=Ax t.nodes.length (ecE t e):=⟨_,rfl⟩
 rw [<- hE] at hr qR
 simp only [A8L,go_sem,↓reduceIte,hb,c1,c2,qT,qW,qO,hr]
 refine Al (by decide) e.has.length (by omega) (I:=fun i F h=>A2.tmp F 5 = .p 0 0 0 0/\A2.tmp F 10 = .p 2 0 0 0/\A2.tmp F 12=lW E/\h=[some ⟨G7,0,0,false,[eT t]⟩,some ⟨BE,0,0,false,[XV s]⟩,some ⟨D4,0,0,false,[eEx e]⟩]) ?_ ?_ ?_ 0 _ _ (Nat.zero_le _) ?_ ?_
 .rintro i F h hi hh ⟨p5,hd,hf,rfl⟩
  simp only [go_sem,↓reduceIte,hh,p5,hd,hf,List.length_map]
 .rintro i F h hi hh ⟨p5,hd,hf,rfl⟩
  have gA:=Ar hi
  obtain ⟨a,ea,h8⟩:=Aa (X.ok.node _ (Af (d:=0) hi))
  have hv:(a:Int)∈e.has:=by rw [<- ea];exact Af hi
  rw [ea] at gA
  have hj:=A6 h8
  simp only [go_sem,↓reduceIte,hh,p5,hd,hf,A0]
  refine Al (by decide) e.has.length (by omega) (I:=fun k F h=>A2.tmp F 13 = .i .i64 i/\A2.tmp F 5 = .p 0 0 0 0/\A2.tmp F 10 = .p 2 0 0 0/\A2.tmp F 12=lW E/\h=[some ⟨G7,0,0,false,[eT t]⟩,some ⟨BE,0,0,false,[XV s]⟩,some ⟨D4,0,0,false,[eEx e]⟩]) ?_ ?_ ?_ 0 _ _ (Nat.zero_le _) ?_ ?_
  .rintro k F h hk hc ⟨h7,q5,h0,h6,rfl⟩
   simp only [go_sem,↓reduceIte,hc,h7,q5,h0,h6,List.length_map]
  .rintro k F h hk hc ⟨h7,q5,h0,h6,rfl⟩
   have gB:=Ar hk
   obtain ⟨b,eb,h9⟩:=Aa (X.ok.node _ (Af (d:=0) hk))
   have hw:(b:Int)∈e.has:=by rw [<- eb];exact Af hk
   rw [eb] at gB
   have hn:=A6 h9
   have q1:=qR a b h8 h9
   have q2:=qR b a h9 h8
   have lk:=fun (x y:Nat) (hx:x < t.nodes.length) (h:ecE t e x y=true)=>AbM ht X ((GI ht e hx).1 h)
   have sp:∀ x:Nat,((((t.at x).kind=2)=True/\((t.at x).kind=3)=False)\/(((t.at x).kind=2)=False/\((t.at x).kind=3)=True)\/(((t.at x).kind=2)=False/\((t.at x).kind=3)=False)):=fun x=>by
    by_cases c:(t.at x).kind=2
    .exact .inl ⟨eq_true c,eq_false (by omega)⟩
    .by_cases d:(t.at x).kind=3
     .exact .inr (.inl ⟨eq_false c,eq_true d⟩)
     .exact .inr (.inr ⟨eq_false c,eq_false d⟩)
   have hq:((i=k)=True/\((i:Int)=(k:Int))=True)\/((i=k)=False/\((i:Int)=(k:Int))=False):=by
    by_cases c:i=k
    .exact .inl ⟨eq_true c,eq_true (by omega)⟩
    .exact .inr ⟨eq_false c,eq_false (by omega)⟩
   cases x1:ecE t e a b with
   | true =>
    obtain ⟨_,_,l1,l2,l3⟩:=lk a b h8 x1
    have x2:ecE t e b a=false:=by rw [Bool.eq_false_iff];exact fun h=>wo a b ((GI ht e h8).1 x1) ((GI ht e h9).1 h)
    rw [x1] at q1
    rw [x2] at q2
    have lq:=eq_true l1
    simp only [go_sem,↓reduceIte,hc,h7,q5,h0,h6,gA,hi,gB,hk,hj,h8,hn,h9,q1,q2,A0]
    rcases sp a with ⟨a2,a3⟩ | ⟨a2,a3⟩ | ⟨a2,a3⟩<;>rcases sp b with ⟨b2,b3⟩ | ⟨b2,b3⟩ | ⟨b2,b3⟩<;>first
     | (exfalso;rw [a2,a3] at l2;rw [b2,b3] at l3;simp at l2 l3;done)
     | (rcases hq with ⟨iq,iq'⟩ | ⟨iq,iq'⟩<;>simp only [go_sem,↓reduceIte,hc,h7,q5,h0,h6,a2,a3,b2,b3,lq,iq,iq',A0])
   | false =>
   cases x2:ecE t e b a with
   | true =>
    obtain ⟨_,_,l1,l3,l2⟩:=lk b a h9 x2
    rw [x1] at q1
    rw [x2] at q2
    have lq:=eq_true l1.symm
    simp only [go_sem,↓reduceIte,hc,h7,q5,h0,h6,gA,hi,gB,hk,hj,h8,hn,h9,q1,q2,A0]
    rcases sp a with ⟨a2,a3⟩ | ⟨a2,a3⟩ | ⟨a2,a3⟩<;>rcases sp b with ⟨b2,b3⟩ | ⟨b2,b3⟩ | ⟨b2,b3⟩<;>first
     | (exfalso;rw [a2,a3] at l2;rw [b2,b3] at l3;simp at l2 l3;done)
     | (rcases hq with ⟨iq,iq'⟩ | ⟨iq,iq'⟩<;>simp only [go_sem,↓reduceIte,hc,h7,q5,h0,h6,a2,a3,b2,b3,lq,iq,iq',A0])
   | false =>
    rw [x1] at q1
    rw [x2] at q2
    have hg:¬ (((t.at a).kind=2\/(t.at a).kind=3)/\((t.at b).kind=2\/(t.at b).kind=3)/\(t.at a).loc=(t.at b).loc/\¬ i=k/\((t.at a).kind=3\/(t.at b).kind=3)):=by
     rintro ⟨h1,h2,h3,h4,h5⟩
     have hy:a≠b:=fun h=>h4 (by
      have e1:=Dv X.ok.nd hi
      have e2:=Dv X.ok.nd hk
      rw [ea] at e1;rw [eb] at e2;subst h;omega)
     have ho:KC t e a b\/KC t e b a:=by
      rcases h5 with h5 | h5
      .exact A3y ht X hv hw h5 h2 h3 hy
      .exact (A3y ht X hw hv h5 h1 h3.symm (fun h=>hy h.symm)).symm
     rcases ho with h | h
     .rw [(GI ht e h8).2 h] at x1;cases x1
     .rw [(GI ht e h9).2 h] at x2;cases x2
    have hz:((t.at a).loc=(t.at b).loc)=True\/((t.at a).loc=(t.at b).loc)=False:=by
     by_cases c:(t.at a).loc=(t.at b).loc
     .exact .inl (eq_true c)
     .exact .inr (eq_false c)
    simp only [go_sem,↓reduceIte,hc,h7,q5,h0,h6,gA,hi,gB,hk,hj,h8,hn,h9,q1,q2,A0]
    rcases sp a with ⟨a2,a3⟩ | ⟨a2,a3⟩ | ⟨a2,a3⟩<;>rcases sp b with ⟨b2,b3⟩ | ⟨b2,b3⟩ | ⟨b2,b3⟩<;>rcases hz with lq | lq<;>rcases hq with ⟨iq,iq'⟩ | ⟨iq,iq'⟩<;>first
     | (exfalso;rw [a2,a3,b2,b3,lq,iq] at hg;simp at hg;done)
     | simp only [go_sem,↓reduceIte,hc,h7,q5,h0,h6,a2,a3,b2,b3,lq,iq,iq',A0]
  .rintro F h ⟨h7,q5,h0,h6,rfl⟩
   simp only [go_sem,↓reduceIte,h7,q5,h0,h6]
  .simp only [go_sem,↓reduceIte]
  .simp only [go_sem,↓reduceIte,hh,p5,hd,hf]
 .rintro F h ⟨p5,hd,hf,rfl⟩
  simp only [go_sem,↓reduceIte,p5,hd,hf]
 .simp only [go_sem,↓reduceIte]
 .simp only [go_sem,↓reduceIte]
end
end Go.AM
