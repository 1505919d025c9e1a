/-
  Own work, part of the proof of these laws: what functions compute.
-/
import Derived.Test.YtpnaenhghnkggaaGreatDoorKI
set_option maxRecDepth 10000
set_option maxHeartbeats 64000000
set_option linter.unusedVariables false
set_option linter.unusedSimpArgs false
set_option linter.unusedSectionVars false
set_option linter.unnecessarySimpa false
open Bool (and_eq_true or_eq_true not_eq_true' eq_false_iff)
open Int (toNat_natCast)
open List (getD_eq_getElem?_getD length_map)
namespace Go.AM
open Go Go.Proofs
theorem D3{e:Option Pk}{a l:Nat}(h:0<l):B9 .rem e (.i .i64 (a:Int)) (.i .i64 (l:Int))=some (.i .i64 ((a % l:Nat):Int)):=by
 rw[H8 (by omega),Int.tmod_eq_emod_of_nonneg (by omega),Int.natCast_emod]
theorem AeL{e:Option Pk}{a l:Nat}(h:0<l)(ha:a<=1000000):B9 .quo e (.i .i64 (a:Int)) (.i .i64 (l:Int))=some (.i .i64 ((a / l:Nat):Int)):=by
 have:=Nat.div_le_self a l
 have w:IntKind.i64.wrap ((a / l:Nat):Int)=((a / l:Nat):Int):=by
  generalize a / l=q at this ⊢
  exact Ax (by omega) (by omega)
 rw[AeF (by omega),Int.tdiv_eq_ediv_of_nonneg (by omega),<- Int.natCast_ediv,w]
theorem CQ(s:A8):HZ (some s)=.tu [HJ s,.b true]:=rfl
theorem CB:HZ none=.tu [HJ Q2,.b false]:=rfl
def nxH(n:AI)(W:List Int):VH:=[some ⟨Ah,0,0,false,[[.nl,.nl,.nl]]⟩,some ⟨BS,0,0,false,[eN n]⟩,some (AN AG 1 (W.map eI))]
section
variable {V:Ai}(C:Am V){Q:VV->Prop}
include C
theorem A1a(t:A2)(ht:A7 t)(s:A8){k:Nat}(hg:Gr t s k)(hk:k<=90)(a b:Nat)(ha:a<256)(hb:b<256):VP V Adw [vT t,HJ s,.i .i64 a,.i .i64 b] Q↔Q (HZ (P6 t s a b)):=by
 have hs:=hg.sz ht (by omega)
 have hz:=hg.sz' (by omega)
 refine Af ?_
 rw[Ad C.c_z30.1 C.c_z30.2]
 have qa:=ht.n64
 have h5:=fun(Q:VV->Prop)=>A18 C t ht s hs (Q:=Q)
 unfold P6
 obtain⟨l,hl⟩:∃l,l=GQ t s t.nodes.length:=⟨_,rfl⟩
 rw[<- hl]at h5 ⊢
 simp only
 cases c0:decide (l.length=0)with
 |true=>
  have hp:=of_decide_eq_true c0
  have h3:decide ((l.length:Int)=0)=true:=decide_eq_true (by omega)
  rw[if_pos hp,CB]
  simp only[JF,go_sem,h5,c0,h3,Q2,length_map]
  rfl
 |false=>
 have hp:=of_decide_eq_false c0
 have h3:decide ((l.length:Int)=0)=false:=decide_eq_false (by omega)
 rw[if_neg hp]
 have r1:=D3 (e:=none) (a:=a) (l:=l.length) (by omega)
 have h4:a % l.length<l.length:=Nat.mod_lt _ (by omega)
 obtain⟨n,hn,h0,hd⟩:=A9M (show l.getD (a % l.length) 0∈GQ t s t.nodes.length from by rw[<- hl];exact Aa h4)
 have g1:=Ak h4
 rw[hn]at g1 ⊢
 rw[toNat_natCast]
 have q9:0<=(t.at n).up:=by simp only[EJ,and_eq_true,decide_eq_true_eq]at hd;exact hd.1.1
 have q2:=ht.kind h0 q9
 cases c4:decide ((t.at n).kind=4)with
 |true=>
  rw[if_pos (of_decide_eq_true c4)]
  have h9:=fun(Q:VV->Prop)=>A1A C t ht s hs n (Q:=Q)
  cases hm:D1 t s n 4 (-1)with
  |none=>
   rw[hm,CB]at h9
   rw[CB]
   simp only[JF,go_sem,h5,c0,h3,r1,g1,h4,h0,A5 h0,c4,h9,Q2,length_map,A0]
   rfl
  |some s'=>
   rw[hm,CQ]at h9
   rw[CQ]
   simp only[JF,go_sem,h5,c0,h3,r1,g1,h4,h0,A5 h0,c4,h9,length_map,A0]
 |false=>
 have q5:=of_decide_eq_false c4
 rw[if_neg q5]
 cases c2:decide ((t.at n).kind=2)with
 |true=>
  rw[if_pos (of_decide_eq_true c2)]
  have qb:=hs.has
  simp only[JF,go_sem,h5,c0,h3,r1,g1,h4,h0,A5 h0,c4,c2,length_map,A0]
  refine Ab (by decide) s.has.length (by omega) (I:=fun i F h=>A3.tmp F 3=.i .i64 b/\A3.tmp F 4=.fp (eT t) 0/\A3.tmp F 5=.fp (Hd s) 0/\A3.tmp F 8=.p 0 0 0 0/\A3.tmp F 11=.i .i64 n/\A3.tmp F 12=.p 1 0 0 0/\∃W,W=T0 t s n i/\A3.tmp F 13=.sl 2 W.length 0 W.length/\h=nxH (t.at n) W) ?_ ?_ ?_ 0 _ _ (Nat.zero_le _) ?_ ?_
  .rintro i F h hi hf ⟨p3,p4,p5,p8,h6,h7,W,hW,h8,rfl⟩
   simp only[go_sem,p3,p4,p5,p8,h6,h7,h8,hf]
   exact⟨W,hW,rfl,rfl⟩
  .rintro i F h hi hf ⟨p3,p4,p5,p8,h6,h7,W,hW,h8,rfl⟩
   have hu:=Aeo (t:=t) (s:=s) (n:=n) i
   rw[<- hW]at hu
   have b1:(W.length+1) * 8<=A6:=by unfold A6;omega
   obtain⟨y,hy,he⟩:=A9 (hg.ok _ (Aa hi))
   have g2:=Ak hi
   rw[hy]at g2
   cases d1:decide ((t.at y).kind=3)with
   |false=>
    have e:K6 t n (s.has.getD i 0)=false:=by rw[hy];simp only[K6,toNat_natCast,d1];rfl
    simp only[go_sem,p3,p4,p5,p8,h6,h7,h8,hf,hi,g2,he,A5 he,d1,nxH,A0]
    exact⟨W,by rw[A5D hi e];exact hW,rfl,rfl⟩
   |true=>
   cases d2:decide ((t.at y).loc=(t.at n).loc)with
   |false=>
    have e:K6 t n (s.has.getD i 0)=false:=by rw[hy];simp only[K6,toNat_natCast,d1,d2];rfl
    simp only[go_sem,p3,p4,p5,p8,h6,h7,h8,hf,hi,g2,he,A5 he,d1,d2,nxH,A0]
    exact⟨W,by rw[A5D hi e];exact hW,rfl,rfl⟩
   |true=>
   cases d3:decide ((t.at y).val=(t.at n).val)with
   |false=>
    have e:K6 t n (s.has.getD i 0)=false:=by rw[hy];simp only[K6,toNat_natCast,d1,d2,d3];rfl
    simp only[go_sem,p3,p4,p5,p8,h6,h7,h8,hf,hi,g2,he,A5 he,d1,d2,d3,nxH,A0]
    exact⟨W,by rw[A5D hi e];exact hW,rfl,rfl⟩
   |true=>
    have e:K6 t n (s.has.getD i 0)=true:=by rw[hy];simp only[K6,toNat_natCast,d1,d2,d3];rfl
    simp only[go_sem,p3,p4,p5,p8,h6,h7,h8,hf,hi,g2,he,A5 he,d1,d2,d3,nxH,A0,b1,CG,List.length_append,length_map]
    exact⟨W++[(y:Int)],by rw[Am5 hi e,hW,hy],by simp,rfl⟩
  .rintro F h ⟨p3,p4,p5,p8,h6,h7,W,hW,h8,rfl⟩
   rw[<- hW]
   cases d0:decide (W.length=0)with
   |true=>
    have hq:=of_decide_eq_true d0
    have ho:decide ((W.length:Int)=0)=true:=decide_eq_true (by omega)
    rw[if_pos hq,CB]
    simp only[go_sem,p3,p4,p5,p8,h6,h7,h8,d0,ho,nxH,Q2]
    rfl
   |false=>
    have hq:=of_decide_eq_false d0
    have ho:decide ((W.length:Int)=0)=false:=decide_eq_false (by omega)
    rw[if_neg hq]
    have r2:=D3 (e:=none) (a:=b) (l:=W.length) (by omega)
    have hr:b % W.length<W.length:=Nat.mod_lt _ (by omega)
    have g3:=Ak hr
    obtain⟨x,hx⟩:∃x,x=W.getD (b % W.length) 0:=⟨_,rfl⟩
    rw[<- hx]at g3 ⊢
    have q1:=Gp (ty:=AG) (e:=1) (rows:=W.map eI) (by rw[length_map];omega)
    have h2:=fun(Q:VV->Prop)=>Zl C t ht s hs ⟨hz.1,hz.2.1⟩ n x (Q:=Q)
    cases hm:Lp t s n x with
    |none=>
     rw[hm,CB]at h2
     rw[CB]
     simp only[go_sem,p3,p4,p5,p8,h6,h7,h8,d0,ho,r2,g3,hr,q1,h2,nxH,Q2,length_map]
     rfl
    |some s'=>
     rw[hm,CQ]at h2
     rw[CQ]
     simp only[go_sem,p3,p4,p5,p8,h6,h7,h8,d0,ho,r2,g3,hr,q1,h2,nxH,length_map]
  .simp only[go_sem]
  .simp only[go_sem]
   exact⟨[],rfl,rfl,rfl⟩
 |false=>
 have q4:=of_decide_eq_false c2
 rw[if_neg q4]
 have c3:(t.at n).kind=3:=by omega
 obtain⟨l0,l1⟩:=ht.wloc h0 (.inr c3)
 obtain⟨loc,h1⟩:=Int.eq_ofNat_of_zero_le l0
 have hc:loc<s.mo.length:=by have:=hg.big.mo;omega
 simp only[h1,toNat_natCast]
 obtain⟨L,hL⟩:∃L,L=s.mo.getD loc []:=⟨_,rfl⟩
 have gL:=C7 hc
 rw[<- hL]at gL ⊢
 have hm:=hs.mi' loc
 rw[<- hL]at hm
 have q7:0<L.length:=by
  have:=(hg.big.mi _ (Aa (d:=[]) hc)).1
  rw[<- hL]at this
  cases L with
  |nil=>exact absurd rfl this
  |cons _ _=>simp
 have r3:B9 .rem none (.i .i64 (b:Int)) (.i .i64 3)=some (.i .i64 ((b % 3:Nat):Int)):=D3 (l:=3) (by omega)
 have q3:B9 .quo none (.i .i64 (b:Int)) (.i .i64 3)=some (.i .i64 ((b / 3:Nat):Int)):=AeL (l:=3) (by omega) (by omega)
 have r4:=D3 (e:=none) (a:=b / 3) (l:=L.length) q7
 have r5:=fun h=>D3 (e:=none) (a:=b / 3) (l:=L.length-1) h
 have q8:=Nat.div_le_self b 3
 have qc:=Nat.mod_le (b / 3) L.length
 have w4:IntKind.i64.wrap (1+((b / 3 % L.length:Nat):Int))=((1+b / 3 % L.length:Nat):Int):=by rw[Ax (by omega) (by omega)];omega
 have hw:=fun(Q:VV->Prop)=>SO C t ht s hs n ((1+b / 3 % L.length:Nat):Int) (Q:=Q)
 have bw:b / 3 % L.length<=1000:=by omega
 cases c5:decide (b % 3=0/\1<L.length)with
 |false=>
  rw[if_neg (of_decide_eq_false c5)]
  have q0:=of_decide_eq_false c5
  cases hm:Hc t s n ((1+b / 3 % L.length:Nat):Int)with
  |none=>
   rw[hm,CB]at hw
   rw[CB]
   cases d1:decide (((b % 3:Nat):Int)=0)with
   |false=>
    simp only[JF,go_sem,h5,c0,h3,r1,g1,h4,h0,A5 h0,c4,c2,h1,hc,gL,r3,q3,r4,w4,d1,hw,Q2,length_map,A0]
    rfl
   |true=>
    have q6:=of_decide_eq_true d1
    have d2:decide (1<(L.length:Int))=false:=decide_eq_false (by omega)
    simp only[JF,go_sem,h5,c0,h3,r1,g1,h4,h0,A5 h0,c4,c2,h1,hc,gL,r3,q3,r4,w4,d1,d2,hw,Q2,length_map,A0]
    rfl
  |some s'=>
   rw[hm,CQ]at hw
   rw[CQ]
   cases d1:decide (((b % 3:Nat):Int)=0)with
   |false=>
    simp only[JF,go_sem,h5,c0,h3,r1,g1,h4,h0,A5 h0,c4,c2,h1,hc,gL,r3,q3,r4,w4,d1,hw,length_map,A0]
   |true=>
    have q6:=of_decide_eq_true d1
    have d2:decide (1<(L.length:Int))=false:=decide_eq_false (by omega)
    simp only[JF,go_sem,h5,c0,h3,r1,g1,h4,h0,A5 h0,c4,c2,h1,hc,gL,r3,q3,r4,w4,d1,d2,hw,length_map,A0]
 |true=>
  have q0:=of_decide_eq_true c5
  rw[if_pos q0]
  have d1:decide (((b % 3:Nat):Int)=0)=true:=decide_eq_true (by omega)
  have d2:decide (1<(L.length:Int))=true:=decide_eq_true (by omega)
  have w1:IntKind.i64.wrap ((L.length:Int)-1)=((L.length-1:Nat):Int):=by rw[Ax (by omega) (by omega)];omega
  have r5:=D3 (e:=none) (a:=b / 3) (l:=L.length-1) (by omega)
  have hv:=Nat.mod_le (b / 3) (L.length-1)
  have w5:IntKind.i64.wrap (1+((b / 3 % (L.length-1):Nat):Int))=((1+b / 3 % (L.length-1):Nat):Int):=by
   generalize b / 3 % (L.length-1)=z at hv ⊢
   rw[Ax (by omega) (by omega)];omega
  have hh:=fun(Q:VV->Prop)=>Zk C t ht s hs hz n ((1+b / 3 % (L.length-1):Nat):Int) (Q:=Q)
  cases hj:Lj t s n ((1+b / 3 % (L.length-1):Nat):Int)with
  |some s'=>
   rw[hj,CQ]at hh
   simp only[CQ]
   simp only[JF,go_sem,h5,c0,h3,r1,g1,h4,h0,A5 h0,c4,c2,h1,hc,gL,r3,q3,r5,w5,w1,d1,d2,hh,length_map,A0]
  |none=>
   rw[hj,CB]at hh
   simp only
   cases hm:Hc t s n ((1+b / 3 % L.length:Nat):Int)with
   |none=>
    rw[hm,CB]at hw
    rw[CB]
    simp only[JF,go_sem,h5,c0,h3,r1,g1,h4,h0,A5 h0,c4,c2,h1,hc,gL,r3,q3,r4,w4,r5,w5,w1,d1,d2,hh,hw,Q2,length_map,A0]
    rfl
   |some s'=>
    rw[hm,CQ]at hw
    rw[CQ]
    simp only[JF,go_sem,h5,c0,h3,r1,g1,h4,h0,A5 h0,c4,c2,h1,hc,gL,r3,q3,r4,w4,r5,w5,w1,d1,d2,hh,hw,Q2,length_map,A0]
end
def grH(s:A8):VH:=[some ⟨Ah,0,0,false,[[.nl,.nl,.nl]]⟩,some ⟨Ah,0,0,false,[Hd s]⟩]
theorem TW{α:Type}(l:List α)(d:α)(i k:Nat):(A1W l d i k).length=l.length:=by simp[A1W]
theorem EI{α:Type}(p:α->Bool)(x:α)(l:List α):CE p (x::l)=if p x=true then 0 else if CE p l<0 then -1 else CE p l+1:=by
 unfold CE
 rw[List.findIdx?_cons]
 cases p x with
 |true=>rfl
 |false=>
  cases l.findIdx? p with
  |none=>rfl
  |some i=>simp;omega
theorem A6c{α:Type}(p:α->Bool)(l:List α) : -1<=CE p l:=by
 unfold CE
 cases l.findIdx? p with
 |none=>simp
 |some i=>show(-1:Int)<=(i:Int);omega
theorem Qq{α:Type}{p:α->Bool}{y:α}(hy:p y=false):∀(l:List α) (k:Nat),k<=l.length->CE p (l.take k++y::l.drop k)=if CE p l<k then CE p l else CE p l+1
 |l,0,_=>by
  have:=A6c p l
  rw[List.take_zero,List.nil_append,List.drop_zero,EI,hy]
  simp only[Bool.false_eq_true,if_false]
  split<;>split<;>omega
 | [],k+1,h=>by simp at h
 |x::l,k+1,h=>by
  have ih:=Qq hy l k (by simpa using h)
  have:=A6c p l
  rw[List.take_succ_cons,List.drop_succ_cons,List.cons_append,EI,EI,ih]
  split
  .rw[if_pos (by omega)]
  .split<;>split<;>split<;>omega
theorem A0x{α:Type}{p:α->Bool}{y d:α}:∀(l:List α) (k:Nat),p y=p (l.getD k d)->CE p (l.set k y)=CE p l
 | [],k,_=>rfl
 |x::l,0,h=>by
  rw[List.set_cons_zero,EI,EI,h];rfl
 |x::l,k+1,h=>by
  rw[List.set_cons_succ,EI,EI,A0x l k (by simpa using h)]
theorem GR{α:Type}{y d:α}:∀(l:List α) (k i:Nat),k<=l.length->(l.take k++y::l.drop k).getD (if i<k then i else i+1) d=l.getD i d
 |l,0,i,_=>by simp
 | [],k+1,i,h=>by simp at h
 |x::l,k+1,0,h=>by simp
 |x::l,k+1,i+1,h=>by
  have ih:=GR (y:=y) (d:=d) l k i (by simpa using h)
  rw[List.take_succ_cons,List.drop_succ_cons,List.cons_append]
  by_cases c:i<k
  .rw[if_pos (by omega)];rw[if_pos c]at ih;simpa using ih
  .rw[if_neg (by omega)];rw[if_neg c]at ih;simpa using ih
theorem Ct{l:List Int}{k:Nat}{x y:Int}:x∈Be l k y↔x=y\/x∈l:=by
 unfold Be
 have e:x∈l↔x∈l.take k\/x∈l.drop k:=by rw[<- List.mem_append,List.take_append_drop]
 rw[e,List.mem_append,List.mem_cons]
 constructor
 .rintro(h|h|h)
  .exact .inr (.inl h)
  .exact .inl h
  .exact .inr (.inr h)
 .rintro(h|h|h)
  .exact .inr (.inl h)
  .exact .inl h
  .exact .inr (.inr h)
theorem A6G{l:List Int}{k:Nat}{x y:Int}(h:x≠y):AQ (Be l k y) x=AQ l x:=by
 cases c:AQ l x with
 |true=>exact Ac.2 (Ct.2 (.inr (Ac.1 c)))
 |false=>
  rw[eq_false_iff]at c ⊢
  intro h2
  rcases Ct.1 (Ac.1 h2)with e|e
  .exact h e
  .exact c (Ac.2 e)
theorem AlV{x f:List Int}{k:Nat}{n y w:Int}(hk:k<=x.length)(hf:k<=f.length)(h:n∈x)(hn:n≠y):CA (Be x k y) (Be f k w) n=CA x f n:=by
 unfold CA
 rw[A6G hn,if_pos (Ac.2 h),if_pos (Ac.2 h)]
 obtain⟨i,e,hi,h1,h2⟩:=Bn (Ac.2 h)
 have e2:BH (Be x k y) n=if BH x n<k then BH x n else BH x n+1:=Qq (p:=fun z=>decide (n=z)) (decide_eq_false hn) x k hk
 rw[e2,e,toNat_natCast]
 have:=GR (y:=w) (d:=0) f k i hf
 unfold Be
 rw[<- this]
 congr 1
 by_cases c:i<k
 .rw[if_pos c,if_pos (by omega)];omega
 .rw[if_neg c,if_neg (by omega)];omega
structure Ext(t:A2)(s s':A8):Prop where
 has:∀n,n∈s.has->n∈s'.has
 on:∀n,n∈s.has->CA s'.has s'.jf n=CA s.has s.jf n
 place:∀(loc v w:Int),v∈s.has->w∈s.has->(BW s loc v<BW s loc w↔BW s' loc v<BW s' loc w)
theorem My{t:A2}{s s':A8}{n kind w:Int}(e:D1 t s n kind w=some s'):Ext t s s'/\Bj t s=true/\n∉s.has:=by
 unfold D1 at e
 split at e
 .rename_i h0
  cases e
  have hk:=Ee s.has n
  simp only[Cn,and_eq_true,not_eq_true']at h0
  have hf:=h0.1.1.1.1
  have h1:s.jf.length=s.has.length:=by simp only[Bj,and_eq_true,decide_eq_true_eq]at hf;exact hf.1.1.1.1.2
  have hn:n∉s.has:=fun h=>by rw[Ac.2 h]at h0;exact absurd h0.1.2 (by simp)
  exact⟨⟨fun x hx=>Ct.2 (.inr hx),fun x hx=>AlV hk (by omega) hx (fun c=>hn (c ▸ hx)),fun _ _ _ _ _=>Iff.rfl⟩,hf,hn⟩
 .cases e
theorem Ext.trans{t:A2}{a b c:A8}(h:Ext t a b)(k:Ext t b c):Ext t a c:=
 ⟨fun n hn=>k.has n (h.has n hn),fun n hn=>(k.on n (h.has n hn)).trans (h.on n hn),fun loc v w hv hw=>(h.place loc v w hv hw).trans (k.place loc v w (h.has v hv) (h.has w hw))⟩
theorem TS{s:A8}{r:Nat}{L:List (List Int)}{g:Int->Int}(hg:∀a b,a<b↔g a<g b){ok:Int->Prop}(h:∀v,ok v->CE (fun c=>AQ c v) L=g (CE (fun c=>AQ c v) (s.mo.getD r [])))(loc v w:Int)(hv:ok v)(hw:ok w) :
  BW s loc v<BW s loc w↔BW { s with mo:=s.mo.set r L } loc v<BW { s with mo:=s.mo.set r L } loc w:=by
 unfold BW
 rw[List.length_set]
 by_cases c:loc<0\/(s.mo.length:Int)<=loc
 .simp only[if_pos c]
 .simp only[if_neg c]
  by_cases c2:loc.toNat=r
  .have e:(s.mo.set r L).getD loc.toNat []=L:=by rw[getD_eq_getElem?_getD,List.getElem?_set,if_pos c2.symm,if_pos (by omega)];rfl
   rw[e,h v hv,h w hw,c2]
   exact hg _ _
  .have e:(s.mo.set r L).getD loc.toNat []=s.mo.getD loc.toNat []:=by rw[getD_eq_getElem?_getD,List.getElem?_set,if_neg (Ne.symm c2),<- getD_eq_getElem?_getD]
   rw[e]
theorem Aax{t:A2}{s s':A8}{n w:Int}(e:Hc t s n w=some s'):Ext t s s'/\Bj t s=true:=by
 unfold Hc at e
 split at e
 .rename_i x hx
  obtain⟨h1,h2,h3⟩:=My hx
  split at e
  .cases e
  .rename_i hw
   cases e
   refine⟨⟨h1.has,h1.on,fun loc v u hv hu=>(h1.place loc v u hv hu).trans ?_⟩,h2⟩
   refine TS (ok:=fun v=>v∈s.has) (g:=fun i=>if i<(w.toNat:Int)then i else i+1) (fun a b=>by split<;>split<;>omega) (fun v hv=>?_) loc v u hv hu
   exact Qq (p:=fun c=>AQ c v) (by
    rw[eq_false_iff]
    intro h
    exact h3 (by rw[List.mem_singleton.1 (Ac.1 h)]at hv;exact hv)) _ _ (by omega)
 .cases e
theorem AcD{t:A2}{s s':A8}{n w:Int}(e:Lj t s n w=some s'):Ext t s s'/\Bj t s=true:=by
 unfold Lj at e
 split at e
 .rename_i x hx
  obtain⟨h1,h2,h3⟩:=My hx
  simp only at e
  split at e
  .cases e
  .split at e
   .cases e
    refine⟨⟨h1.has,h1.on,fun loc v u hv hu=>(h1.place loc v u hv hu).trans ?_⟩,h2⟩
    refine TS (ok:=fun v=>v∈s.has) (g:=fun i=>i) (fun a b=>Iff.rfl) (fun v hv=>?_) loc v u hv hu
    exact A0x (d:=[]) _ _ (A6G fun c=>h3 (c ▸ hv))
   .cases e
 .cases e
theorem Aeg{t:A2}{s s':A8}{n w:Int}(e:Lp t s n w=some s'):Ext t s s'/\Bj t s=true:=by
 unfold Lp at e
 split at e
 .rename_i x hx
  obtain⟨h1,h2,_⟩:=My hx
  split at e
  .cases e;exact⟨h1,h2⟩
  .cases e
 .cases e
theorem M7.mono{p q:Nat->Nat->Bool}{N a b:Nat}(i:∀a b,p a b=true->q a b=true)(h:M7 p N a b):M7 q N a b:=by
 induction h with
 |one hb h=>exact .one hb (i _ _ h)
 |more _ hc h ih=>exact .more ih hc (i _ _ h)
theorem Z7{l l':List Int}(h:∀x,x∈l->x∈l'):BI l|||BI l'=BI l':=by
 apply B4
 intro j hj
 have e:∀l:List Int,(BI l).getLsbD j=AQ l (j:Int):=fun l=>by rw[<- Aq,Gw l (by omega) (by omega)]
 rw[BitVec.getLsbD_or,e,e]
 cases c:AQ l (j:Int)with
 |false=>rw[Bool.false_or]
 |true=>rw[Ac.2 (h _ (Ac.1 c))];rfl
def okJ(t:A2)(has:List Int)(n w:Int):Bool:=
 if(t.at n.toNat).kind=2 then AQ has w&&G7 t w (t.at n.toNat).loc&&decide ((t.at w.toNat).val=(t.at n.toNat).val)else decide (w=-1)
structure B2(t:A2)(s:A8):Prop where
 node:∀n∈s.has,BZ t n=true
 up:∀n∈s.has,(t.at n.toNat).up<0\/(t.at n.toNat).up∈s.has
 ris:s.has.Pairwise (· < ·)
 init:Ed t|||BI s.has=BI s.has
 jl:s.jf.length=s.has.length
 just:∀i,i<s.has.length->okJ t s.has (s.has.getD i 0) (s.jf.getD i 0)=true
 ml:s.mo.length=t.locs.length
 mo:∀loc,loc<s.mo.length->Dq t s loc=true
 once:∀n∈s.has,(t.at n.toNat).kind=3->((s.mo.getD (t.at n.toNat).loc.toNat []).filter fun c=>AQ c n).length=1
theorem Jx{l:List Int}:(∀i,i<l.length->Ch l i=true)↔l.Pairwise (· < ·):=by
 constructor
 .intro h
  rw[List.pairwise_iff_getElem]
  have h0:∀d i,i+d+1<l.length->l.getD i 0<l.getD (i+d+1) 0:=by
   intro d
   induction d with
   |zero=>
    intro i hi
    have:=h (i+1) (by omega)
    simpa[Ch]using this
   |succ d ih=>
    intro i hi
    have h1:=ih i (by omega)
    have:=h (i+d+1+1) (by omega)
    simp only[Ch,Nat.add_one_sub_one,or_eq_true,decide_eq_true_eq]at this
    rcases this with h2|h2
    .omega
    .exact Int.lt_trans h1 h2
  intro i j hi hj h3
  have:=h0 (j-i-1) i (by omega)
  rw[show i+(j-i-1)+1=j by omega]at this
  simpa[getD_eq_getElem?_getD,hi,hj]using this
 .intro h i hi
  rw[List.pairwise_iff_getElem]at h
  simp only[Ch,or_eq_true,decide_eq_true_eq]
  rcases Nat.eq_zero_or_pos i with c|c
  .exact .inl c
  .refine .inr ?_
   have:=h (i-1) i (by omega) hi (by omega)
   simpa[getD_eq_getElem?_getD,hi,show i-1<l.length by omega]using this
theorem BV{t:A2}{s:A8}:Bj t s=true↔B2 t s:=by
 have e:∀i,GU t s i=okJ t s.has (s.has.getD i 0) (s.jf.getD i 0):=fun _=>rfl
 have h0:∀{p:Int->Prop},(∀i,i<s.has.length->p (s.has.getD i 0))↔∀n∈s.has,p n:=by
  intro p
  constructor
  .intro h n hn
   obtain⟨i,hi,rfl⟩:=List.getElem_of_mem hn
   have:=h i hi
   rwa [getD_eq_getElem?_getD,List.getElem?_eq_getElem hi]at this
  .intro h i hi
   exact h _ (Aa hi)
 constructor
 .intro h
  simp only[Bj,Cg,Ce,Kj,e,and_eq_true,or_eq_true,not_eq_true',decide_eq_true_eq,decide_eq_false_iff_not,Ag,Ac]at h
  obtain⟨⟨⟨⟨⟨⟨h1,h2⟩,h3⟩,h4⟩,h5⟩,h6⟩,h7⟩:=h
  exact⟨h0.1 fun i hi=>(h1 i hi).1.1,h0.1 fun i hi=>(h1 i hi).2,Jx.1 fun i hi=>(h1 i hi).1.2,h2,h3,h5,h4,h6,h0.1 fun i hi k=>by
   rcases h7 i hi with h|h
   .exact absurd k h
   .exact h⟩
 .intro h
  simp only[Bj,Cg,Ce,Kj,e,and_eq_true,or_eq_true,not_eq_true',decide_eq_true_eq,decide_eq_false_iff_not,Ag,Ac]
  refine⟨⟨⟨⟨⟨⟨fun i hi=>⟨⟨h0.2 h.node i hi,Jx.2 h.ris i hi⟩,h0.2 h.up i hi⟩,h.init⟩,h.jl⟩,h.ml⟩,h.just⟩,h.mo⟩,fun i hi=>?_⟩
  by_cases k:(t.at (s.has.getD i 0).toNat).kind=3
  .exact .inr (h.once _ (Aa hi) k)
  .exact .inl k
theorem Agg{l:List Int}{n:Int}(h:l.Pairwise (· < ·))(hn:n∉l):(Be l (Bo l n) n).Pairwise (· < ·):=by
 induction l with
 |nil=>simp[Be,Bo]
 |cons x l ih=>
  rw[List.pairwise_cons]at h
  have hx:x≠n:=fun c=>hn (by simp[c])
  have hl:n∉l:=fun c=>hn (by simp[c])
  by_cases c:x<n
  .have e:Be (x::l) (Bo (x::l) n) n=x::Be l (Bo l n) n:=by
    simp[Be,Bo,c]
   rw[e,List.pairwise_cons]
   refine⟨fun y hy=>?_,ih h.2 hl⟩
   rcases Ct.1 hy with rfl|hy
   .exact c
   .exact h.1 y hy
  .have e:Be (x::l) (Bo (x::l) n) n=n::x::l:=by
    simp[Be,Bo,c]
   rw[e,List.pairwise_cons,List.pairwise_cons]
   refine⟨fun y hy=>?_,h⟩
   rcases List.mem_cons.1 hy with rfl|hy
   .omega
   .have:=h.1 y hy;omega
theorem A6C{l:List Int}{k:Nat}{y:Int}(h:k<=l.length):(Be l k y).getD k 0=y:=by
 unfold Be
 rw[getD_eq_getElem?_getD,List.getElem?_append_right (by rw[List.length_take];omega),List.length_take,Nat.min_eq_left h]
 simp
theorem Agf{p:Int->Int->Prop}{l f:List Int}{k:Nat}{n w:Int}(hk:k<=l.length)(hf:f.length=l.length)(h:∀i,i<l.length->p (l.getD i 0) (f.getD i 0))(hn:p n w)(i:Nat)(hi:i<(Be l k n).length):p ((Be l k n).getD i 0) ((Be f k w).getD i 0):=by
 rw[DL hk]at hi
 rcases Nat.lt_trichotomy i k with c|c|c
 .have e1:=GR (y:=n) (d:=0) l k i hk
  have e2:=GR (y:=w) (d:=0) f k i (by omega)
  rw[if_pos c]at e1 e2
  unfold Be
  rw[e1,e2]
  exact h i (by omega)
 .subst c
  rw[A6C hk,A6C (by omega)]
  exact hn
 .have e1:=GR (y:=n) (d:=0) l k (i-1) hk
  have e2:=GR (y:=w) (d:=0) f k (i-1) (by omega)
  rw[if_neg (by omega),show i-1+1=i by omega]at e1 e2
  unfold Be
  rw[e1,e2]
  exact h (i-1) (by omega)
theorem A1t{t:A2}{a b:List Int}(h:∀x,x∈a->x∈b){n w:Int}(k:okJ t a n w=true):okJ t b n w=true:=by
 unfold okJ at k ⊢
 split at k
 .rename_i c
  rw[if_pos c]
  simp only[and_eq_true,Ac]at k ⊢
  exact⟨⟨h _ k.1.1,k.1.2⟩,k.2⟩
 .rename_i c
  rw[if_neg c];exact k
theorem Hi{t:A2}{a b:List Int}(h:∀x,x∈a->x∈b){l:List Int}{loc:Int}(k:Ca t l a loc=true):Ca t l b loc=true:=by
 simp only[Ca,and_eq_true,Ag,Bb,Ac]at k ⊢
 refine⟨k.1,fun i hi=>?_⟩
 obtain⟨⟨⟨⟨h1,h2⟩,h3⟩,h4⟩,h5⟩:=k.2 i hi
 exact⟨⟨⟨⟨h _ h1,h2⟩,h3⟩,h4⟩,h5⟩
theorem Tt{t:A2}{s:A8}(h:B2 t s){n w:Int}(hn:BZ t n=true)(hno:n∉s.has)(hup:(t.at n.toNat).up∈s.has)(hw:okJ t s.has n w=true){M:List (List (List Int))}(ml:M.length=s.mo.length)
  (mo:∀loc,loc<s.mo.length->Dq t { Ba s n w with mo:=M } loc=true)
  (o1:∀x∈s.has,(t.at x.toNat).kind=3->((M.getD (t.at x.toNat).loc.toNat []).filter fun c=>AQ c x).length=((s.mo.getD (t.at x.toNat).loc.toNat []).filter fun c=>AQ c x).length)
  (o2:(t.at n.toNat).kind=3->((M.getD (t.at n.toNat).loc.toNat []).filter fun c=>AQ c n).length=1):B2 t { Ba s n w with mo:=M }:=by
 have hk:=Ee s.has n
 have sub:∀x,x∈s.has->x∈Be s.has (Bo s.has n) n:=fun x hx=>Ct.2 (.inr hx)
 refine⟨?_,?_,Agg h.ris hno,?_,?_,?_,by rw[<- h.ml];exact ml,fun loc hl=>mo loc (by rw[<- ml];exact hl),?_⟩
 .intro x hx
  rcases Ct.1 hx with rfl|hx
  .exact hn
  .exact h.node x hx
 .intro x hx
  rcases Ct.1 hx with rfl|hx
  .exact .inr (sub _ hup)
  .rcases h.up x hx with c|c
   .exact .inl c
   .exact .inr (sub _ c)
 .have e:BI s.has|||BI (Be s.has (Bo s.has n) n)=BI (Be s.has (Bo s.has n) n):=Z7 sub
  show Ed t|||BI (Be s.has (Bo s.has n) n)=BI (Be s.has (Bo s.has n) n)
  rw[<- e,<- BitVec.or_assoc,h.init]
 .show(Be s.jf (Bo s.has n) w).length=(Be s.has (Bo s.has n) n).length
  rw[DL hk,DL (by rw[h.jl];exact hk),h.jl]
 .exact Agf (p:=fun a b=>okJ t (Be s.has (Bo s.has n) n) a b=true) hk h.jl (fun i hi=>A1t sub (h.just i hi)) (A1t sub hw)
 .intro x hx kx
  rcases Ct.1 hx with rfl|hx
  .exact o2 kx
  .show((M.getD (t.at x.toNat).loc.toNat []).filter fun c=>AQ c x).length=1
   rw[o1 x hx kx];exact h.once x hx kx
theorem A9I{t:A2}{s:A8}(h:B2 t s){n w:Int}(hn:BZ t n=true)(hno:n∉s.has)(hup:(t.at n.toNat).up∈s.has)(hw:okJ t s.has n w=true)(hk:(t.at n.toNat).kind≠3):B2 t (Ba s n w):=by
 have sub:∀x,x∈s.has->x∈Be s.has (Bo s.has n) n:=fun x hx=>Ct.2 (.inr hx)
 refine Tt (M:=s.mo) h hn hno hup hw rfl ?_ (fun _ _ _=>rfl) (fun c=>absurd c hk)
 intro loc hl
 have:=h.mo loc hl
 simp only[Dq,and_eq_true,Ag,or_eq_true]at this ⊢
 refine⟨this.1,fun i hi=>?_⟩
 rcases this.2 i hi with c|c
 .exact .inl c
 .exact .inr (Hi sub c)
section
variable {t:A2}(ht:A7 t){s s':A8}{n:Nat}(E:Ext t s s')(hF:Dg t s.has s.jf)(hF':Dg t s'.has s'.jf)(up:∀n,n∈s.has->(t.at n.toNat).up<0\/(t.at n.toNat).up∈s.has)
 (new:∀x,x∈s'.has->x=(n:Int)\/x∈s.has) (hno:(n:Int)∉s.has) (fr:∀b:Nat,(b:Int)∈s.has->Ao t n b=false) (onN:(t.at n).kind=2->CA s'.has s'.jf n∈s.has)
include ht E hF hF' up new hno fr onN
end
theorem UB{α:Type}(p:α->Bool)(l:List α):CE p l<l.length:=by
 cases h:l.any p with
 |false=>rw[Qr h];omega
 |true=>
  obtain⟨k,e,hk,_⟩:=HN h
  rw[e];omega
def AcJ(s:A8)(loc:Nat):Int:=((s.mo.getD loc []).getD ((s.mo.getD loc []).length-1) []).getD 0 0
structure WI(t:A2)(s:A8)(mem:List Int)(k:Nat):Prop where
 gr:Gr t s k
 kl:k<=s.has.length
 form:B2 t s
 coh:AsW t s=true
 one:∀loc,loc<s.mo.length->∀c∈s.mo.getD loc [],∃w:Nat,c=[(w:Int)]/\(w:Int)∈s.has/\(t.at w).kind=3/\(t.at w).loc=loc
 ml:mem.length=t.locs.length
 mem:∀loc,loc<t.locs.length->mem.getD loc 0=(t.at (AcJ s loc).toNat).val
theorem B2.len{t:A2}{s:A8}(h:B2 t s):s.has.length<=t.nodes.length:=by
 have hd:s.has.Nodup:=h.ris.imp fun h=>by omega
 have:=Hs s.has ((List.range t.nodes.length).map fun(i:Nat)=>(i:Int)) hd (fun x hx=>by
  obtain⟨m,rfl,hm⟩:=A9 (h.node x hx)
  exact List.mem_map.2 ⟨m,List.mem_range.2 hm,rfl⟩)
 simpa using this
theorem WI.pos{t:A2}{s:A8}{mem:List Int}{k:Nat}(W:WI t s mem k){loc:Nat}(hl:loc<s.mo.length):0<(s.mo.getD loc []).length:=by
 have:=(W.gr.big.mi _ (Aa (d:=[]) hl)).1
 exact List.length_pos_iff.2 this
theorem WI.last{t:A2}{s:A8}{mem:List Int}{k:Nat}(W:WI t s mem k){loc:Nat}(hl:loc<s.mo.length) :
  ∃w:Nat,AcJ s loc=w/\(w:Int)∈s.has/\(t.at w).kind=3/\(t.at w).loc=loc/\BW s loc w=((s.mo.getD loc []).length-1:Nat):=by
 have hp:=W.pos hl
 have h0:(s.mo.getD loc []).length-1<(s.mo.getD loc []).length:=by omega
 obtain⟨w,e,h1,h2,h3⟩:=W.one loc hl _ (Aa (d:=[]) h0)
 refine⟨w,by rw[AcJ,e];rfl,h1,h2,h3,?_⟩
 rw[BW,if_neg (by omega),toNat_natCast]
 have ho:=W.form.once _ h1 (by rw[toNat_natCast];exact h2)
 rw[toNat_natCast,h3,toNat_natCast]at ho
 have e2:(s.mo.getD loc [])[(s.mo.getD loc []).length-1]=[(w:Int)]:=by
  rw[<- e,getD_eq_getElem?_getD (l:=s.mo.getD loc []),List.getElem?_eq_getElem h0];rfl
 refine DC h0 (by rw[e2];simp[AQ]) (fun j hj=>?_)
 rw[eq_false_iff]
 intro hc
 obtain⟨L,hL⟩:∃L,L=s.mo.getD loc []:=⟨_,rfl⟩
 rw[<- hL]at ho hj h0 hp
 simp only[<- hL]at e2 hc
 have h4:L=L.take (j+1)++L.drop (j+1):=(List.take_append_drop _ _).symm
 rw[h4,List.filter_append,List.length_append]at ho
 have p1:0<((L.take (j+1)).filter fun c=>AQ c (w:Int)).length:=by
  refine List.length_pos_of_mem (a:=L[j]) (List.mem_filter.2 ⟨?_,hc⟩)
  rw[List.mem_take_iff_getElem]
  exact⟨j,by omega,rfl⟩
 have p2:0<((L.drop (j+1)).filter fun c=>AQ c (w:Int)).length:=by
  refine List.length_pos_of_mem (a:=L[L.length-1]) (List.mem_filter.2 ⟨?_,by rw[e2];simp[AQ]⟩)
  rw[List.mem_drop_iff_getElem]
  exact⟨L.length-1-(j+1),by omega,by congr 1;omega⟩
 omega
theorem G3.moreN{t:A2}:∀{n u e:Nat},G3 t n u e->u<e/\∀m,u<m->m<e->0<=(t.at m).up/\((t.at m).rmw=true->(t.at m).kind=3):=by
 intro n
 induction n with
 |zero=>intro u e h;exact absurd h (by simp[G3])
 |succ n ih=>
  intro u e h
  obtain⟨⟨_,ht,_⟩,h⟩:=h
  rcases h with ⟨_,_,rfl⟩|⟨c,_,_,al,hb⟩|⟨c,_,_,vals,k,loc,mode,_,hv0,hk0,hke,hloc,hs,_⟩
  .exact⟨by omega,fun m h1 h2=>by omega⟩
  .have:=(ih hb).1
   refine⟨by omega,fun m h1 h2=>?_⟩
   by_cases e1:m=u+1
   .subst e1
    refine⟨by rw[(Ea c).1];omega,fun hr=>?_⟩
    simp only[Dc,or_eq_true,and_eq_true,decide_eq_true_eq,not_eq_true']at al
    rcases al with h|h
    .rw[h.1.1.2]at hr;cases hr
    .exact h.1.1.1
   .exact(ih hb).2 m (by omega) h2
  .have mono:∀v,v<=vals->k 0<=k v:=by
    intro v
    induction v with
    |zero=>intro _;omega
    |succ v iv=>intro hv;have:=iv (by omega);have:=(ih (hs v (by omega)).2.2).1;omega
   refine⟨by have:=mono vals (by omega);omega,fun m h1 h2=>?_⟩
   obtain⟨v,hv,a,b⟩:=Ci (k:=k) (m:=m) vals (by omega) (by omega)
   obtain⟨s1,s2,s3⟩:=hs v hv
   by_cases e1:m=k v
   .subst e1
    simp only[Em,and_eq_true,decide_eq_true_eq,not_eq_true']at s2
    exact⟨by rw[(Ea s1).1];omega,fun hr=>by rw[s2.2]at hr;cases hr⟩
   .exact(ih s3).2 m (by omega) b
theorem A7.kinds{t:A2}(h:A7 t):∃s:Nat->Nat,(∀v,v<t.regs.length->s v<t.nodes.length/\t.locs.length<=s v/\(t.at (s v)).thread=v/\(t.at (s v)).up=-1/\(t.at (s v)).kind=1)/\(∀m,m<t.nodes.length->m<t.locs.length\/(∃v,v<t.regs.length/\m=s v)\/(0<=(t.at m).up/\((t.at m).rmw=true->(t.at m).kind=3))):=by
 obtain⟨s,h0,he,hs⟩:=h.thr
 have mono:∀d v,v+d<=t.regs.length->s v+d<=s (v+d):=by
  intro d
  induction d with
  |zero=>intro v _;simp
  |succ d ih=>
   intro v hv
   have:=ih v (by omega)
   obtain⟨_,n,hn⟩:=hs (v+d) (by omega)
   have:=hn.moreN.1
   rw[Nat.add_assoc]at this
   omega
 refine⟨s,fun v hv=>?_,fun m hm=>?_⟩
 .obtain⟨hb,n,hn⟩:=hs v hv
  simp only[DO,and_eq_true,decide_eq_true_eq]at hb
  have a:=mono v 0 (by omega)
  have b:=mono (t.regs.length-v) v (by omega)
  rw[show v+(t.regs.length-v)=t.regs.length by omega]at b
  rw[Nat.zero_add]at a
  exact⟨by omega,by omega,hb.1.1.1.1.1.1,hb.1.1.1.1.1.2,hb.1.1.1.1.2⟩
 .by_cases c:m<t.locs.length
  .exact .inl c
  .obtain⟨v,hv,a,b⟩:=Ci (k:=s) (m:=m) t.regs.length (by omega) (by omega)
   obtain⟨hb,n,hn⟩:=hs v hv
   by_cases e1:m=s v
   .exact .inr (.inl ⟨v,hv,e1⟩)
   .exact .inr (.inr (hn.moreN.2 m (by omega) b))
theorem A7.top{t:A2}(h:A7 t){m:Nat}(hm:m<t.nodes.length)(h0:0<=(t.at m).thread)(hu:(t.at m).up<0):(t.at m).kind=1:=by
 obtain⟨s,h1,h2⟩:=h.kinds
 rcases h2 m hm with c|⟨v,hv,rfl⟩|c
 .have:=(h.init m c).thr;omega
 .exact(h1 v hv).2.2.2.2
 .omega
theorem S0{t:A2}{x:Int}:x∈(CH t).has↔∃m:Nat,x=m/\m<t.nodes.length/\(t.at m).up<0:=by
 simp only[CH,DY,List.mem_map,List.mem_filter,List.mem_range,decide_eq_true_eq]
 constructor
 .rintro⟨i,⟨h1,h2⟩,rfl⟩;exact⟨i,rfl,h1,h2⟩
 .rintro⟨i,rfl,h1,h2⟩;exact⟨i,⟨h1,h2⟩,rfl⟩
theorem A8L{t:A2}(h:A7 t){m:Nat}(hm:m<t.nodes.length)(hu:(t.at m).up<0):(m<t.locs.length/\(t.at m).kind=3)\/(t.locs.length<=m/\(t.at m).kind=1):=by
 by_cases c:m<t.locs.length
 .exact .inl ⟨c,(h.init m c).kind⟩
 .refine .inr ⟨by omega,h.top hm ?_ hu⟩
  have:=(h.thr_iff hm).1
  omega
theorem Aj2{t:A2}{loc:Nat}(h:loc<t.locs.length):(CH t).mo.getD loc []=[[(loc:Int)]]:=by
 simp[CH,h]
theorem AhY{t:A2}(h:A7 t):B2 t (CH t):=by
 refine⟨fun n hn=>?_,fun n hn=>?_,?_,?_,?_,fun i hi=>?_,by simp[CH],fun loc hl=>?_,fun n hn kn=>?_⟩
 .obtain⟨m,rfl,hm,_⟩:=S0.1 hn;exact C1 hm
 .obtain⟨m,rfl,hm,hu⟩:=S0.1 hn;exact .inl hu
 .simp only[CH,DY,List.pairwise_map]
  exact(List.pairwise_lt_range.filter _).imp fun h=>by omega
 .apply BitVec.eq_of_getLsbD_eq
  intro i hi
  rw[BitVec.getLsbD_or,Ed,AA]
  cases hc:(BI (CH t).has).getLsbD i with
  |true=>simp
  |false=>
   rw[Bool.or_false,eq_false_iff]
   intro hx
   simp only[and_eq_true,decide_eq_true_eq]at hx
   have:=Gw (CH t).has (x:=(i:Int)) (by omega) (by omega)
   rw[Aq,hc,Ac.2 (S0.2 ⟨i,rfl,hx.1.1,hx.1.2⟩)]at this;cases this
 .simp[CH]
 .have hm:=Aa (d:=0) hi
  obtain⟨m,e,hm,hu⟩:=S0.1 hm
  have hj:(CH t).jf.getD i 0=-1:=by
   have h0:i<(DY t t.nodes.length).length:=hi
   simp[CH,h0]
  rw[e,hj]
  rcases A8L h hm hu with c|c<;>simp[okJ,c.2]
 .have h1:loc<t.locs.length:=by simpa[CH]using hl
  simp only[Dq,Aj2 h1,and_eq_true,Ag]
  refine⟨⟨rfl,by simp⟩,fun i hi=>?_⟩
  have:i=0:=by simp at hi;omega
  simp[this]
 .obtain⟨m,rfl,hm,hu⟩:=S0.1 hn
  rw[toNat_natCast]at kn ⊢
  rcases A8L h hm hu with c|c
  .rw[(h.init m c.1).loc,toNat_natCast,Aj2 c.1];simp[AQ]
  .omega
structure StI(t:A2)(s:A8)(at_:List Nat):Prop where
 has:∀u∈at_,(u:Int)∈s.has/\0<=(t.at u).thread
 top:∀u∈at_,∀x:Nat,(x:Int)∈s.has->(t.at x).thread=(t.at u).thread->x<=u
 pw:at_.Pairwise fun a b=>(t.at a).thread≠(t.at b).thread
 chain:∀u∈at_,∀x:Nat,(x:Int)∈s.has->(t.at x).thread=(t.at u).thread->x=u\/AK t x u=true
 cov:∀x:Nat,(x:Int)∈s.has->0<=(t.at x).thread->∃u∈at_,(t.at u).thread=(t.at x).thread
theorem Qi{t:A2}(hu:J9 t){x n m:Nat}(hn:n<t.nodes.length)(e:(t.at n).up=(m:Int)):AK t x n=(decide (m=x)||AK t x m):=by
 unfold AK
 have:=hu n hn
 rw[E8 hu x (by omega),e,if_neg (by omega),toNat_natCast]
 by_cases c:m=x
 .rw[if_pos (by omega),decide_eq_true c,Bool.true_or]
 .rw[if_neg (by omega),decide_eq_false c,Bool.false_or]
end Go.AM
