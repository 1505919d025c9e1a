/-
  Own work, part of the proof of these laws: plain laws.
-/
import Derived.Test.YtpnaenhghnkggaaGreatDoorKL
set_option maxRecDepth 10000
set_option maxHeartbeats 64000000
set_option linter.unusedVariables false
set_option linter.unusedSimpArgs false
set_option linter.unusedSectionVars false
open Bool (and_eq_true or_eq_true)
open BitVec (getLsbD_or)
namespace Go.AM
open Go Go.Proofs
def E4(t:A2)(n:Nat):BitVec 64:=BR fun i=>decide (i<t.nodes.length)&&(decide ((t.at i).thread<0)||decide (i=n)||AK t i n)
def Gf(t:A2)(i:Nat):List Nat:=(List.range t.nodes.length).filter fun n=>decide ((t.at n).thread=(i:Int))&&(t.at n).fin
def Se(t:A2)(S:BitVec 64)(i:Nat):List (BitVec 64):=((Gf t i).map (E4 t)).filter fun w=>decide (w|||S=S)
def HK(t:A2)(S:BitVec 64):Nat->List (BitVec 64)
 |0=>[0#64]
 |k+1=>(HK t S k).flatMap fun s=>(Se t S k).map fun w=>s|||w
theorem Rz{a b:BitVec 64}:a|||b=b↔∀j,j<64->a.getLsbD j=true->b.getLsbD j=true:=by
 constructor
 .intro h j _ ha
  rw[<- h,getLsbD_or,ha,Bool.true_or]
 .intro h
  apply B4
  intro j hj
  rw[getLsbD_or]
  cases c:a.getLsbD j with
  |false=>rw[Bool.false_or]
  |true=>rw[h j hj c];rfl
theorem Afs(t:A2)(S:BitVec 64)(k:Nat):(HK t S (k+1)).length=(HK t S k).length * (Se t S k).length:=by
 rw[HK]
 induction HK t S k with
 |nil=>simp
 |cons x l ih=>rw[List.flatMap_cons,List.length_append,List.length_map,ih,List.length_cons,Nat.succ_mul];omega
theorem A0H{p:Nat->Bool}{u:Nat}(hp:p u=true)(hu:∀x,p x=true->x=u):∀n,u<n->(List.range n).filter p=[u]
 |0,h=>by omega
 |n+1,h=>by
  rw[List.range_succ,List.filter_append]
  by_cases c:u=n
  .subst c
   rw[List.filter_cons_of_pos hp,List.filter_nil]
   have:(List.range u).filter p=[]:=by
    rw[List.filter_eq_nil_iff]
    intro x hx h0
    have:=hu x h0
    have:=List.mem_range.1 hx
    omega
   rw[this];rfl
  .rw[A0H hp hu n (by omega),List.filter_cons_of_neg (fun hc=>c (hu n hc).symm),List.filter_nil,List.append_nil]
theorem Td{t:A2}(ht:A7 t){a:Nat}:∀(N b:Nat),b<N->b<t.nodes.length->AK t a b=true->∃m,m<t.nodes.length/\(t.at m).up=(a:Int)
 |0,b,h,_,_=>by omega
 |N+1,b,hN,hb,h=>by
  have hlt:=ht.up b hb
  rcases Int.lt_or_le (t.at b).up 0 with c|c
  .unfold AK at h
   rw[E8 ht.up a (by omega),if_pos c]at h
   cases h
  .obtain⟨m,hm⟩:=Int.eq_ofNat_of_zero_le c
   rw[Qi ht.up hb hm,or_eq_true,decide_eq_true_eq]at h
   rcases h with h|h
   .exact⟨b,hb,by rw[hm,h]⟩
   .exact Td ht N m (by omega) (by omega) h
theorem L0{t:A2}(ht:A7 t){n j:Nat}:(E4 t n).getLsbD j=true↔j<t.nodes.length/\((t.at j).thread<0\/j=n\/AK t j n=true):=by
 have:=ht.n64
 rw[E4,AA]
 simp only[and_eq_true,or_eq_true,decide_eq_true_eq]
 constructor
 .rintro⟨⟨h1,h2⟩,_⟩
  refine⟨h1,?_⟩
  rcases h2 with (h|h)|h
  .exact .inl h
  .exact .inr (.inl h)
  .exact .inr (.inr h)
 .rintro⟨h1,h2⟩
  refine⟨⟨h1,?_⟩,by omega⟩
  rcases h2 with h|h|h
  .exact .inl (.inl h)
  .exact .inl (.inr h)
  .exact .inr h
theorem Ag8{t:A2}(ht:A7 t){s:A8}(hf:B2 t s){j:Nat}:(BI s.has).getLsbD j=true↔(j:Int)∈s.has:=by
 have h0:=ht.n64
 have hn:BF t s.has:=hf.node
 rw[<- Aq,hn.has h0,Ac]
def inW(t:A2):BitVec 64:=BR fun i=>decide (i<t.locs.length)
def Kz(t:A2)(s:A8)(n:Nat):Bool:=decide (E4 t n|||BI s.has=BI s.has)&&(AC (E4 t n)).all fun j=>AQ s.has j&&AeK t s j.toNat
def Sf(t:A2)(s:A8)(i:Nat):List (BitVec 64):=((Gf t i).filter (Kz t s)).map (E4 t)
def L7(t:A2)(s:A8):Nat->List (BitVec 64)
 |0=>[inW t]
 |k+1=>(L7 t s k).flatMap fun x=>(Sf t s k).map fun w=>x|||w
theorem A4c{t:A2}{s:A8}(hf:B2 t s){p:Int->Bool}:BF t (s.has.filter p):=fun x hx=>hf.node x (List.mem_filter.1 hx).1
theorem RV{t:A2}(ht:A7 t){s:A8}(hf:B2 t s){j:Nat}:(Pe t s).getLsbD j=true↔(j:Int)∈s.has/\NF t s j=true:=by
 have h0:=ht.n64
 have hn:BF t (s.has.filter fun e=>NF t s e.toNat):=A4c hf
 rw[Pe,<- Aq,hn.has h0,Ac,List.mem_filter,Int.toNat_natCast]
theorem Ams{t:A2}(ht:A7 t){s:A8}(hf:B2 t s)(n:Nat):Kz t s n=decide (E4 t n|||Pe t s=Pe t s):=by
 rw[Bool.eq_iff_iff,Kz,and_eq_true,decide_eq_true_eq,decide_eq_true_eq,Rz,Rz,List.all_eq_true]
 have hb:∀j,(E4 t n).getLsbD j=true->(j:Int)∈AC (E4 t n):=fun j h=>B7.2 (by rw[Aq];exact h)
 constructor
 .rintro⟨h1,h2⟩ j hj h0
  have h3:=h2 _ (hb j h0)
  rw[and_eq_true,Ac,Int.toNat_natCast]at h3
  exact(RV ht hf).2 ⟨h3.1,by rw[<- Sd ht hf h3.1];exact h3.2⟩
 .intro h
  refine⟨fun j hj h0=>(Ag8 ht hf).2 ((RV ht hf).1 (h j hj h0)).1,fun x hx=>?_⟩
  obtain⟨h1,h2⟩:=CO (B7.1 hx)
  obtain⟨j,rfl⟩:=Int.eq_ofNat_of_zero_le h1
  have h3:=B7.1 hx
  rw[Aq]at h3
  obtain⟨h4,h5⟩:=(RV ht hf).1 (h j (by omega) h3)
  rw[and_eq_true,Ac,Int.toNat_natCast,Sd ht hf h4]
  exact⟨h4,h5⟩
theorem A8U{t:A2}(ht:A7 t){s:A8}(hf:B2 t s)(i:Nat):Sf t s i=Se t (Pe t s) i:=by
 rw[Sf,Se,List.filter_map]
 congr 1
 exact List.filter_congr fun n _=>Ams ht hf n
theorem Acz{t:A2}(ht:A7 t){j:Nat}:(inW t).getLsbD j=true↔j<t.locs.length:=by
 have:=ht.n64
 have:=ht.first.1
 rw[inW,AA,and_eq_true,decide_eq_true_eq,decide_eq_true_eq]
 omega
theorem Aki{t:A2}(ht:A7 t)(n:Nat):inW t|||E4 t n=E4 t n:=Rz.2 fun j _ h=>by
 have h:=(Acz ht).1 h
 have hl:j<t.nodes.length:=by have:=ht.first.1;omega
 exact(L0 ht).2 ⟨hl,.inl ((ht.thr_iff hl).2 h)⟩
theorem Sh{t:A2}{S:BitVec 64}{i:Nat}{w:BitVec 64}(h:w∈Se t S i):∃n,n∈Gf t i/\w=E4 t n/\w|||S=S:=by
 obtain⟨h1,h2⟩:=List.mem_filter.1 h
 obtain⟨n,hn,rfl⟩:=List.mem_map.1 h1
 exact⟨n,hn,rfl,of_decide_eq_true h2⟩
theorem A2m{t:A2}(ht:A7 t){s:A8}(hf:B2 t s):∀k,L7 t s (k+1)=HK t (Pe t s) (k+1)
 |0=>by
  rw[L7,HK,L7,HK,A8U ht hf,List.flatMap_cons,List.flatMap_nil,List.append_nil,List.flatMap_cons,List.flatMap_nil,List.append_nil]
  refine List.map_congr_left fun w hw=>?_
  obtain⟨n,_,rfl,_⟩:=Sh hw
  rw[Aki ht,BitVec.zero_or]
 |k+1=>by
  rw[L7,HK,A2m ht hf k,A8U ht hf]
theorem Abj{t:A2}(ht:A7 t){s:A8}(hf:B2 t s):L7 t s t.regs.length=HK t (Pe t s) t.regs.length:=by
 have:=ht.r1
 obtain⟨k,e⟩:∃k,t.regs.length=k+1:=⟨t.regs.length-1,by omega⟩
 rw[e];exact A2m ht hf k
theorem Mw{t:A2}{i n:Nat}:n∈Gf t i↔n<t.nodes.length/\(t.at n).thread=i/\(t.at n).fin=true:=by
 rw[Gf,List.mem_filter,List.mem_range,and_eq_true,decide_eq_true_eq]
theorem Aib{t:A2}(ht:A7 t){i n j:Nat}(hn:n∈Gf t i)(h:(E4 t n).getLsbD j=true):j<t.nodes.length/\((t.at j).thread<0\/(t.at j).thread=i):=by
 obtain⟨h1,h2⟩:=(L0 ht).1 h
 obtain⟨h3,h4,_⟩:=Mw.1 hn
 refine⟨h1,?_⟩
 rcases h2 with h2|h2|h2
 .exact .inl h2
 .subst h2;exact .inr h4
 .exact .inr (by rw[Afw ht _ n (Nat.lt_succ_self _) h3 h2,h4])
theorem A5Z{t:A2}(ht:A7 t){S:BitVec 64}:∀k,∀x∈HK t S k,(∀j,x.getLsbD j=true->j<t.nodes.length/\(t.at j).thread<k/\0<k)/\(0<k->∀j,j<t.nodes.length->(t.at j).thread<0->x.getLsbD j=true)/\x|||S=S
 |0,x,hx=>by
  rw[HK,List.mem_singleton]at hx
  subst hx
  exact⟨fun j h=>by simp at h,fun h=>absurd h (by decide),by simp⟩
 |k+1,x,hx=>by
  rw[HK,List.mem_flatMap]at hx
  obtain⟨a,ha,hx⟩:=hx
  obtain⟨w,hw,rfl⟩:=List.mem_map.1 hx
  obtain⟨n,hn,rfl,hS⟩:=Sh hw
  obtain⟨h1,h2,h3⟩:=A5Z ht k a ha
  refine⟨fun j hj=>?_,fun _ j hj h0=>?_,?_⟩
  .rw[getLsbD_or,or_eq_true]at hj
   rcases hj with hj|hj
   .have:=h1 j hj;exact⟨this.1,by omega,by omega⟩
   .obtain⟨h4,h5⟩:=Aib ht hn hj;exact⟨h4,by omega,by omega⟩
  .rw[getLsbD_or,(L0 ht).2 ⟨hj,.inl h0⟩,Bool.or_true]
  .rw[BitVec.or_assoc,hS,h3]
theorem A0R{t:A2}(ht:A7 t){j:Nat}(hj:j<t.nodes.length)(h:(t.at j).thread<0):(t.at j).fin=false:=by
 have:=ht.first.2 j ((ht.thr_iff hj).1 h)
 simp only[GT,and_eq_true,decide_eq_true_eq,Bool.not_eq_true']at this
 exact this.1.2
theorem A8T{t:A2}(ht:A7 t){i n j:Nat}(hn:n∈Gf t i)(hj:(E4 t n).getLsbD j=true)(hf:(t.at j).fin=true):j=n:=by
 obtain⟨h1,_,_⟩:=Mw.1 hn
 obtain⟨h0,hb⟩:=(L0 ht).1 hj
 rcases hb with c|c|c
 .rw[A0R ht h0 c]at hf;cases hf
 .exact c
 .obtain⟨m,hm,hu⟩:=Td ht _ n (Nat.lt_succ_self _) h1 c
  by_cases c0:(t.at j).thread<0
  .rw[A0R ht h0 c0]at hf;cases hf
  .exact absurd hu (ht.nokid h0 (by omega) hf hm)
theorem Tr{p q r:Nat->Bool}(h:∀x,r x=(p x||q x))(d:∀x,p x=true->q x=false):∀l:List Nat,(l.filter r).length=(l.filter p).length+(l.filter q).length
 | []=>rfl
 |x::l=>by
  have ih:=Tr h d l
  have hx:=h x
  have dx:=d x
  cases hp:p x<;>cases hq:q x
  .rw[hp,hq]at hx;rw[List.filter_cons_of_neg (by rw[hx];decide),List.filter_cons_of_neg (by rw[hp];decide),List.filter_cons_of_neg (by rw[hq];decide),ih]
  .rw[hp,hq]at hx;rw[List.filter_cons_of_pos (by rw[hx];decide),List.filter_cons_of_neg (by rw[hp];decide),List.filter_cons_of_pos (by rw[hq]),List.length_cons,List.length_cons,ih];omega
  .rw[hp,hq]at hx;rw[List.filter_cons_of_pos (by rw[hx];decide),List.filter_cons_of_pos (by rw[hp]),List.filter_cons_of_neg (by rw[hq];decide),List.length_cons,List.length_cons,ih];omega
  .rw[dx hp]at hq;cases hq
def A9H(t:A2)(x:BitVec 64):Nat:=((List.range 64).filter fun j=>x.getLsbD j&&(t.at j).fin).length
theorem A60{t:A2}(ht:A7 t){S:BitVec 64}:∀k,∀x∈HK t S k,A9H t x=k
 |0,x,hx=>by
  rw[HK,List.mem_singleton]at hx
  subst hx
  rw[A9H,List.filter_eq_nil_iff.2 (fun j _=>by simp)];rfl
 |k+1,x,hx=>by
  rw[HK,List.mem_flatMap]at hx
  obtain⟨a,ha,hx⟩:=hx
  obtain⟨w,hw,rfl⟩:=List.mem_map.1 hx
  obtain⟨n,hn,rfl,hS⟩:=Sh hw
  obtain⟨h1,_,_⟩:=A5Z ht k a ha
  obtain⟨hnl,hnt,hnf⟩:=Mw.1 hn
  have h64:=ht.n64
  rw[A9H,Tr (p:=fun j=>a.getLsbD j&&(t.at j).fin) (q:=fun j=>(E4 t n).getLsbD j&&(t.at j).fin) (fun j=>by rw[getLsbD_or,Bool.and_or_distrib_right]) ?_ (List.range 64)]
  .have ih:=A60 ht k a ha
   rw[A9H]at ih
   rw[ih,A0H (u:=n) (by rw[(L0 ht).2 ⟨hnl,.inr (.inl rfl)⟩,hnf];rfl) ?_ 64 (by omega)]
   .rfl
   .intro j hj
    rw[and_eq_true]at hj
    exact A8T ht hn hj.1 hj.2
  .intro j hj
   rw[and_eq_true]at hj
   rw[Bool.eq_false_iff]
   intro hc
   rw[and_eq_true]at hc
   have h2:=A8T ht hn hc.1 hc.2
   subst h2
   have:=(h1 _ hj.1).2.1
   omega
theorem Ul:∀{l k:List Int},l.Pairwise (· < ·)->k.Pairwise (· < ·)->(∀x,x∈l↔x∈k)->l=k
 | [],[],_,_,_=>rfl
 | [],y::k,_,_,h=>by have:=(h y).2 (List.mem_cons_self ..);cases this
 |x::l,[],_,_,h=>by have:=(h x).1 (List.mem_cons_self ..);cases this
 |x::l,y::k,hl,hk,h=>by
  have hx:=List.pairwise_cons.1 hl
  have hy:=List.pairwise_cons.1 hk
  have e:x=y:=by
   rcases List.mem_cons.1 ((h x).1 (List.mem_cons_self ..))with e|e
   .exact e
   .rcases List.mem_cons.1 ((h y).2 (List.mem_cons_self ..))with e2|e2
    .exact e2.symm
    .have h1:=hx.1 y e2
     have h2:=hy.1 x e
     omega
  subst e
  rw[Ul hx.2 hy.2 fun z=>?_]
  constructor
  .intro hz
   rcases List.mem_cons.1 ((h z).1 (List.mem_cons_of_mem _ hz))with e|e
   .have:=hx.1 z hz;omega
   .exact e
  .intro hz
   rcases List.mem_cons.1 ((h z).2 (List.mem_cons_of_mem _ hz))with e|e
   .have:=hy.1 z hz;omega
   .exact e
theorem Nb(s:BitVec 64):(AC s).Pairwise (· < ·):=by
 unfold AC
 rw[List.pairwise_map]
 unfold BP
 exact(List.Pairwise.filter _ List.pairwise_lt_range).imp fun h=>by omega
def nI(l:List Nat):List Int:=l.map fun(n:Nat)=>(n:Int)
theorem Ado(l:List Nat):(nI l).length=l.length:=by simp[nI]
theorem Ahy(l:List Nat)(x:Nat):nI l++[(x:Int)]=nI (l++[x]):=by simp[nI]
theorem Aah(l:List Int)(k:Nat)(v:Int):(l.map eI).set k [.i .i64 v]=(l.set k v).map eI:=by rw[List.map_set]
def b6:Option VO:=some ⟨Ah,0,0,false,[[.nl,.nl,.nl]]⟩
def b9(s:A8):Option VO:=some ⟨Ah,0,0,false,[Hd s]⟩
def AnC(mem:List Int)(mv:VV)(x3:Option VO):Prop:=mv=lI mem\/(mv=.sl 3 mem.length 0 mem.length/\x3=some (AN AG 1 (mem.map eI)))
section
variable {V:Ai}(C:Am V)
include C
omit C in
theorem AnC.cl{mem:List Int}{mv:VV}{x3:Option VO}(k:AnC mem mv x3){n:Nat}(hn:3<n):Mi n mv=mv:=by
 rcases k with rfl|⟨rfl,rfl⟩
 .rfl
 .show(bif Nat.blt 3 n then _ else _)=_
  rw[show Nat.blt 3 n=true from by simp only[Nat.blt_eq];exact hn];rfl
end
end Go.AM
