/-
  Own work, part of the proof of CoheWalked: what comes of steps one after the other, and the law itself.
-/
import Derived.Test.YtpcpldaangchaaaGreatDoorKE
set_option maxRecDepth 4000
set_option linter.unusedVariables false
set_option linter.unusedSimpArgs false
set_option linter.unusedSectionVars false
set_option linter.unnecessarySimpa false
namespace Go.AM
open Go Go.Proofs
theorem Mr {α : Type} (p : α → Bool) (x : α) (l : List α) : Ci p (x :: l) = if p x = true then 0 else if Ci p l < 0 then -1 else Ci p l + 1 := by
 unfold Ci
 rw [List.findIdx?_cons]
 cases p x with
 | true => rfl
 | false =>
  cases l.findIdx? p with
  | none => rfl
  | some i => simp; omega
theorem A0w {α : Type} (p : α → Bool) (l : List α) : -1 ≤ Ci p l := by
 unfold Ci
 cases l.findIdx? p with
 | none => simp
 | some i => show (-1 : Int) ≤ (i : Int); omega
theorem LM {α : Type} {p : α → Bool} {y : α} (hy : p y = false) : ∀ (l : List α) (k : Nat), k ≤ l.length → Ci p (l.take k ++ y :: l.drop k) = if Ci p l < k then Ci p l else Ci p l + 1
 | l, 0, _ => by
  have := A0w p l
  rw [List.take_zero, List.nil_append, List.drop_zero, Mr, hy]
  simp only [Bool.false_eq_true, if_false]
  split <;> split <;> omega
 | [], k + 1, h => by simp at h
 | x :: l, k + 1, h => by
  have ih := LM hy l k (by simpa using h)
  have := A0w p l
  rw [List.take_succ_cons, List.drop_succ_cons, List.cons_append, Mr, Mr, ih]
  split
  ·rw [if_pos (by omega)]
  ·split <;> split <;> split <;> omega
theorem Hj {α : Type} {y d : α} : ∀ (l : List α) (k i : Nat), k ≤ l.length → (l.take k ++ y :: l.drop k).getD (if i < k then i else i + 1) d = l.getD i d
 | l, 0, i, _ => by simp
 | [], k + 1, i, h => by simp at h
 | x :: l, k + 1, 0, h => by simp
 | x :: l, k + 1, i + 1, h => by
  have ih := Hj (y := y) (d := d) l k i (by simpa using h)
  rw [List.take_succ_cons, List.drop_succ_cons, List.cons_append]
  by_cases c : i < k
  ·rw [if_pos (by omega)]; rw [if_pos c] at ih; simpa using ih
  ·rw [if_neg (by omega)]; rw [if_neg c] at ih; simpa using ih
theorem Ch {l : List Int} {k : Nat} {x y : Int} : x ∈ Bi l k y ↔ x = y ∨ x ∈ l := by
 unfold Bi
 have e : x ∈ l ↔ x ∈ l.take k ∨ x ∈ l.drop k := by rw [← List.mem_append, List.take_append_drop]
 rw [e, List.mem_append, List.mem_cons]
 constructor
 ·rintro (h | h | h)
  ·exact .inr (.inl h)
  ·exact .inl h
  ·exact .inr (.inr h)
 ·rintro (h | h | h)
  ·exact .inr (.inl h)
  ·exact .inl h
  ·exact .inr (.inr h)
theorem A8x {l : List Int} {k : Nat} {x y : Int} (h : x ≠ y) : Bd (Bi l k y) x = Bd l x := by
 cases c : Bd l x with
 | true => exact A7.2 (Ch.2 (.inr (A7.1 c)))
 | false =>
  rw [Bool.eq_false_iff] at c ⊢
  intro h2
  rcases Ch.1 (A7.1 h2) with e | e
  ·exact h e
  ·exact c (A7.2 e)
theorem AbP {x f : List Int} {k : Nat} {n y w : Int} (hk : k ≤ x.length) (hf : k ≤ f.length) (h : n ∈ x) (hn : n ≠ y) : HC (Bi x k y) (Bi f k w) n = HC x f n := by
 unfold HC
 rw [A8x hn, if_pos (A7.2 h), if_pos (A7.2 h)]
 obtain ⟨i, e, hi, h1, h2⟩ := DF (A7.2 h)
 have e2 : Eh (Bi x k y) n = if Eh x n < k then Eh x n else Eh x n + 1 := LM (p := fun z => decide (n = z)) (decide_eq_false hn) x k hk
 rw [e2, e, Int.toNat_natCast]
 have := Hj (y := w) (d := 0) f k i hf
 unfold Bi
 rw [← this]
 congr 1
 by_cases c : i < k
 ·rw [if_pos c, if_pos (by omega)]; omega
 ·rw [if_neg c, if_neg (by omega)]; omega
/-- A structure with more in it, in which all that was there stands as it stood. -/
structure Ext (t : A3) (s s' : Ad) : Prop where
 has : ∀ n, n ∈ s.has → n ∈ s'.has
 on : ∀ n, n ∈ s.has → HC s'.has s'.jf n = HC s.has s.jf n
 place : ∀ (loc v w : Int), v ∈ s.has → w ∈ s.has → (Bt s loc v < Bt s loc w ↔ Bt s' loc v < Bt s' loc w)
theorem JD {t : A3} {s s' : Ad} {n kind w : Int} (e : De t s n kind w = some s') : Ext t s s' ∧ BX t s = true ∧ n ∉ s.has := by
 unfold De at e
 split at e
 ·rename_i hok
  cases e
  have hk := DC s.has n
  simp only [Cr, Bool.and_eq_true, Bool.not_eq_true'] at hok
  have hf := hok.1.1.1.1
  have hjl : s.jf.length = s.has.length := by simp only [BX, Bool.and_eq_true, decide_eq_true_eq] at hf; exact hf.1.1.1.1.2
  have hn : n ∉ s.has := fun h => by rw [A7.2 h] at hok; exact absurd hok.1.2 (by simp)
  exact ⟨⟨fun x hx => Ch.2 (.inr hx), fun x hx => AbP hk (by omega) hx (fun c => hn (c ▸ hx)), fun _ _ _ _ _ => Iff.rfl⟩, hf, hn⟩
 ·cases e
theorem Ext.trans {t : A3} {a b c : Ad} (h : Ext t a b) (k : Ext t b c) : Ext t a c :=
 ⟨fun n hn => k.has n (h.has n hn), fun n hn => (k.on n (h.has n hn)).trans (h.on n hn), fun loc v w hv hw => (h.place loc v w hv hw).trans (k.place loc v w (h.has v hv) (h.has w hw))⟩
theorem A3G {s : Ad} {r : Nat} {L : List (List Int)} {g : Int → Int} (hg : ∀ a b, a < b ↔ g a < g b) {ok : Int → Prop} (h : ∀ v, ok v → Ci (fun c => Bd c v) L = g (Ci (fun c => Bd c v) (s.mo.getD r []))) (loc v w : Int) (hv : ok v) (hw : ok w) :
  Bt s loc v < Bt s loc w ↔ Bt { s with mo := s.mo.set r L } loc v < Bt { s with mo := s.mo.set r L } loc w := by
 unfold Bt
 rw [List.length_set]
 by_cases c : loc < 0 ∨ (s.mo.length : Int) ≤ loc
 ·simp only [if_pos c]
 ·simp only [if_neg c]
  by_cases c2 : loc.toNat = r
  ·have e : (s.mo.set r L).getD loc.toNat [] = L := by rw [List.getD_eq_getElem?_getD, List.getElem?_set, if_pos c2.symm, if_pos (by omega)]; rfl
   rw [e, h v hv, h w hw, c2]
   exact hg _ _
  ·have e : (s.mo.set r L).getD loc.toNat [] = s.mo.getD loc.toNat [] := by rw [List.getD_eq_getElem?_getD, List.getElem?_set, if_neg (Ne.symm c2), ← List.getD_eq_getElem?_getD]
   rw [e]
theorem A2X {t : A3} {s s' : Ad} {n w : Int} (e : Hc t s n w = some s') : Ext t s s' ∧ BX t s = true := by
 unfold Hc at e
 split at e
 ·rename_i x hx
  obtain ⟨h1, h2, h3⟩ := JD hx
  split at e
  ·cases e
  ·rename_i hw
   cases e
   refine ⟨⟨h1.has, h1.on, fun loc v u hv hu => (h1.place loc v u hv hu).trans ?_⟩, h2⟩
   refine A3G (ok := fun v => v ∈ s.has) (g := fun i => if i < (w.toNat : Int) then i else i + 1) (fun a b => by split <;> split <;> omega) (fun v hv => ?_) loc v u hv hu
   exact LM (p := fun c => Bd c v) (by
    rw [Bool.eq_false_iff]
    intro h
    exact h3 (by rw [List.mem_singleton.1 (A7.1 h)] at hv; exact hv)) _ _ (by omega)
 ·cases e
theorem Ll.mono {p q : Nat → Nat → Bool} {N a b : Nat} (i : ∀ a b, p a b = true → q a b = true) (h : Ll p N a b) : Ll q N a b := by
 induction h with
 | one hb h => exact .one hb (i _ _ h)
 | more _ hc h ih => exact .more ih hc (i _ _ h)
section
variable {t : A3} (ht : A8 t) {s s' : Ad} (E : Ext t s s') (hF : CY t s.has s.jf) (hF' : CY t s'.has s'.jf) (up : ∀ n, n ∈ s.has → (t.at n.toNat).up < 0 ∨ (t.at n.toNat).up ∈ s.has)
include ht E hF hF' up
theorem Aah {w : Int} (hw : w ∈ s.has) : Xz t s'.has s'.jf w = Xz t s.has s.jf w := by
 unfold Xz
 rcases up w hw with h | h
 ·have a : Bd s.has (t.at w.toNat).up = false := Bool.eq_false_iff.2 fun c => by
   obtain ⟨m, e, _⟩ := Aj (hF.node _ (A7.1 c)); omega
  have b : Bd s'.has (t.at w.toNat).up = false := Bool.eq_false_iff.2 fun c => by
   obtain ⟨m, e, _⟩ := Aj (hF'.node _ (A7.1 c)); omega
  rw [a, b]; simp
 ·rw [A7.2 h, A7.2 (E.has _ h), E.on _ h]
end
theorem Tg {l l' : List Int} (h : ∀ x, x ∈ l → x ∈ l') : Cg l ||| Cg l' = Cg l' := by
 apply C1
 intro j hj
 have e : ∀ l : List Int, (Cg l).getLsbD j = Bd l (j : Int) := fun l => by rw [← B0, NM l (by omega) (by omega)]
 rw [BitVec.getLsbD_or, e, e]
 cases c : Bd l (j : Int) with
 | false => rw [Bool.false_or]
 | true => rw [A7.2 (h _ (A7.1 c))]; rfl
end Go.AM

namespace Go.AM
open Go Go.Proofs
def okJ (t : A3) (has : List Int) (n w : Int) : Bool :=
 if (t.at n.toNat).kind = 2 then Bd has w && Hx t w (t.at n.toNat).loc && decide ((t.at w.toNat).val = (t.at n.toNat).val) else decide (w = -1)
structure GI (t : A3) (s : Ad) : Prop where
 node : ∀ n ∈ s.has, BY t n = true
 up : ∀ n ∈ s.has, (t.at n.toNat).up < 0 ∨ (t.at n.toNat).up ∈ s.has
 ris : s.has.Pairwise (· < ·)
 init : GY t ||| Cg s.has = Cg s.has
 jl : s.jf.length = s.has.length
 just : ∀ i, i < s.has.length → okJ t s.has (s.has.getD i 0) (s.jf.getD i 0) = true
 ml : s.mo.length = t.locs.length
 mo : ∀ loc, loc < s.mo.length → DR t s loc = true
 once : ∀ n ∈ s.has, (t.at n.toNat).kind = 3 → ((s.mo.getD (t.at n.toNat).loc.toNat []).filter fun c => Bd c n).length = 1
theorem A1Y {l : List Int} : (∀ i, i < l.length → Cs l i = true) ↔ l.Pairwise (· < ·) := by
 constructor
 ·intro h
  rw [List.pairwise_iff_getElem]
  have key : ∀ d i, i + d + 1 < l.length → l.getD i 0 < l.getD (i + d + 1) 0 := by
   intro d
   induction d with
   | zero =>
    intro i hi
    have := h (i + 1) (by omega)
    simpa [Cs] using this
   | succ d ih =>
    intro i hi
    have h1 := ih i (by omega)
    have := h (i + d + 1 + 1) (by omega)
    simp only [Cs, Nat.add_one_sub_one, Bool.or_eq_true, decide_eq_true_eq] at this
    rcases this with h2 | h2
    ·omega
    ·exact Int.lt_trans h1 h2
  intro i j hi hj hij
  have := key (j - i - 1) i (by omega)
  rw [show i + (j - i - 1) + 1 = j by omega] at this
  simpa [List.getD_eq_getElem?_getD, hi, hj] using this
 ·intro h i hi
  rw [List.pairwise_iff_getElem] at h
  simp only [Cs, Bool.or_eq_true, decide_eq_true_eq]
  rcases Nat.eq_zero_or_pos i with c | c
  ·exact .inl c
  ·refine .inr ?_
   have := h (i - 1) i (by omega) hi (by omega)
   simpa [List.getD_eq_getElem?_getD, hi, show i - 1 < l.length by omega] using this
theorem EX {t : A3} {s : Ad} : BX t s = true ↔ GI t s := by
 have e : ∀ i, EW t s i = okJ t s.has (s.has.getD i 0) (s.jf.getD i 0) := fun _ => rfl
 have mem : ∀ {p : Int → Prop}, (∀ i, i < s.has.length → p (s.has.getD i 0)) ↔ ∀ n ∈ s.has, p n := by
  intro p
  constructor
  ·intro h n hn
   obtain ⟨i, hi, rfl⟩ := List.getElem_of_mem hn
   have := h i hi
   rwa [List.getD_eq_getElem?_getD, List.getElem?_eq_getElem hi] at this
  ·intro h i hi
   exact h _ (Aq hi)
 constructor
 ·intro h
  simp only [BX, BO, BL, JH, e, Bool.and_eq_true, Bool.or_eq_true, Bool.not_eq_true', decide_eq_true_eq, decide_eq_false_iff_not, Am, A7] at h
  obtain ⟨⟨⟨⟨⟨⟨h1, h2⟩, h3⟩, h4⟩, h5⟩, h6⟩, h7⟩ := h
  exact ⟨mem.1 fun i hi => (h1 i hi).1.1, mem.1 fun i hi => (h1 i hi).2, A1Y.1 fun i hi => (h1 i hi).1.2, h2, h3, h5, h4, h6, mem.1 fun i hi k => by
   rcases h7 i hi with h | h
   ·exact absurd k h
   ·exact h⟩
 ·intro h
  simp only [BX, BO, BL, JH, e, Bool.and_eq_true, Bool.or_eq_true, Bool.not_eq_true', decide_eq_true_eq, decide_eq_false_iff_not, Am, A7]
  refine ⟨⟨⟨⟨⟨⟨fun i hi => ⟨⟨mem.2 h.node i hi, A1Y.2 h.ris i hi⟩, mem.2 h.up i hi⟩, h.init⟩, h.jl⟩, h.ml⟩, h.just⟩, h.mo⟩, fun i hi => ?_⟩
  by_cases k : (t.at (s.has.getD i 0).toNat).kind = 3
  ·exact .inr (h.once _ (Aq hi) k)
  ·exact .inl k
theorem A8k {l : List Int} {n : Int} (h : l.Pairwise (· < ·)) (hn : n ∉ l) : (Bi l (Bz l n) n).Pairwise (· < ·) := by
 induction l with
 | nil => simp [Bi, Bz]
 | cons x l ih =>
  rw [List.pairwise_cons] at h
  have hx : x ≠ n := fun c => hn (by simp [c])
  have hl : n ∉ l := fun c => hn (by simp [c])
  by_cases c : x < n
  ·have e : Bi (x :: l) (Bz (x :: l) n) n = x :: Bi l (Bz l n) n := by
    simp [Bi, Bz, c]
   rw [e, List.pairwise_cons]
   refine ⟨fun y hy => ?_, ih h.2 hl⟩
   rcases Ch.1 hy with rfl | hy
   ·exact c
   ·exact h.1 y hy
  ·have e : Bi (x :: l) (Bz (x :: l) n) n = n :: x :: l := by
    simp [Bi, Bz, c]
   rw [e, List.pairwise_cons, List.pairwise_cons]
   refine ⟨fun y hy => ?_, h⟩
   rcases List.mem_cons.1 hy with rfl | hy
   ·omega
   ·have := h.1 y hy; omega
theorem NQ {l : List Int} {k : Nat} {y : Int} (h : k ≤ l.length) : (Bi l k y).getD k 0 = y := by
 unfold Bi
 rw [List.getD_eq_getElem?_getD, List.getElem?_append_right (by rw [List.length_take]; omega), List.length_take, Nat.min_eq_left h]
 simp
theorem A8W {p : Int → Int → Prop} {l f : List Int} {k : Nat} {n w : Int} (hk : k ≤ l.length) (hf : f.length = l.length) (h : ∀ i, i < l.length → p (l.getD i 0) (f.getD i 0)) (hn : p n w) (i : Nat) (hi : i < (Bi l k n).length) : p ((Bi l k n).getD i 0) ((Bi f k w).getD i 0) := by
 rw [CR hk] at hi
 rcases Nat.lt_trichotomy i k with c | c | c
 ·have e1 := Hj (y := n) (d := 0) l k i hk
  have e2 := Hj (y := w) (d := 0) f k i (by omega)
  rw [if_pos c] at e1 e2
  unfold Bi
  rw [e1, e2]
  exact h i (by omega)
 ·subst c
  rw [NQ hk, NQ (by omega)]
  exact hn
 ·have e1 := Hj (y := n) (d := 0) l k (i - 1) hk
  have e2 := Hj (y := w) (d := 0) f k (i - 1) (by omega)
  rw [if_neg (by omega), show i - 1 + 1 = i by omega] at e1 e2
  unfold Bi
  rw [e1, e2]
  exact h (i - 1) (by omega)
theorem WJ {t : A3} {a b : List Int} (h : ∀ x, x ∈ a → x ∈ b) {n w : Int} (k : okJ t a n w = true) : okJ t b n w = true := by
 unfold okJ at k ⊢
 split at k
 ·rename_i c
  rw [if_pos c]
  simp only [Bool.and_eq_true, A7] at k ⊢
  exact ⟨⟨h _ k.1.1, k.1.2⟩, k.2⟩
 ·rename_i c
  rw [if_neg c]; exact k
theorem JX {t : A3} {a b : List Int} (h : ∀ x, x ∈ a → x ∈ b) {l : List Int} {loc : Int} (k : Cc t l a loc = true) : Cc t l b loc = true := by
 simp only [Cc, Bool.and_eq_true, Am, Bl, A7] at k ⊢
 refine ⟨k.1, fun i hi => ?_⟩
 obtain ⟨⟨⟨⟨h1, h2⟩, h3⟩, h4⟩, h5⟩ := k.2 i hi
 exact ⟨⟨⟨⟨h _ h1, h2⟩, h3⟩, h4⟩, h5⟩
theorem RZ {t : A3} {s : Ad} (h : GI t s) {n w : Int} (hn : BY t n = true) (hno : n ∉ s.has) (hup : (t.at n.toNat).up ∈ s.has) (hw : okJ t s.has n w = true) {M : List (List (List Int))} (ml : M.length = s.mo.length)
  (mo : ∀ loc, loc < s.mo.length → DR t { CA s n w with mo := M } loc = true)
  (o1 : ∀ x ∈ s.has, (t.at x.toNat).kind = 3 → ((M.getD (t.at x.toNat).loc.toNat []).filter fun c => Bd c x).length = ((s.mo.getD (t.at x.toNat).loc.toNat []).filter fun c => Bd c x).length)
  (o2 : (t.at n.toNat).kind = 3 → ((M.getD (t.at n.toNat).loc.toNat []).filter fun c => Bd c n).length = 1) : GI t { CA s n w with mo := M } := by
 have hk := DC s.has n
 have sub : ∀ x, x ∈ s.has → x ∈ Bi s.has (Bz s.has n) n := fun x hx => Ch.2 (.inr hx)
 refine ⟨?_, ?_, A8k h.ris hno, ?_, ?_, ?_, by rw [← h.ml]; exact ml, fun loc hl => mo loc (by rw [← ml]; exact hl), ?_⟩
 ·intro x hx
  rcases Ch.1 hx with rfl | hx
  ·exact hn
  ·exact h.node x hx
 ·intro x hx
  rcases Ch.1 hx with rfl | hx
  ·exact .inr (sub _ hup)
  ·rcases h.up x hx with c | c
   ·exact .inl c
   ·exact .inr (sub _ c)
 ·have e : Cg s.has ||| Cg (Bi s.has (Bz s.has n) n) = Cg (Bi s.has (Bz s.has n) n) := Tg sub
  show GY t ||| Cg (Bi s.has (Bz s.has n) n) = Cg (Bi s.has (Bz s.has n) n)
  rw [← e, ← BitVec.or_assoc, h.init]
 ·show (Bi s.jf (Bz s.has n) w).length = (Bi s.has (Bz s.has n) n).length
  rw [CR hk, CR (by rw [h.jl]; exact hk), h.jl]
 ·exact A8W (p := fun a b => okJ t (Bi s.has (Bz s.has n) n) a b = true) hk h.jl (fun i hi => WJ sub (h.just i hi)) (WJ sub hw)
 ·intro x hx kx
  rcases Ch.1 hx with rfl | hx
  ·exact o2 kx
  ·show ((M.getD (t.at x.toNat).loc.toNat []).filter fun c => Bd c x).length = 1
   rw [o1 x hx kx]; exact h.once x hx kx
theorem RP {t : A3} {s : Ad} (h : GI t s) {n w : Int} (hn : BY t n = true) (hno : n ∉ s.has) (hup : (t.at n.toNat).up ∈ s.has) (hw : okJ t s.has n w = true) (hk : (t.at n.toNat).kind ≠ 3) : GI t (CA s n w) := by
 have sub : ∀ x, x ∈ s.has → x ∈ Bi s.has (Bz s.has n) n := fun x hx => Ch.2 (.inr hx)
 refine RZ (M := s.mo) h hn hno hup hw rfl ?_ (fun _ _ _ => rfl) (fun c => absurd c hk)
 intro loc hl
 have := h.mo loc hl
 simp only [DR, Bool.and_eq_true, Am, Bool.or_eq_true] at this ⊢
 refine ⟨this.1, fun i hi => ?_⟩
 rcases this.2 i hi with c | c
 ·exact .inl c
 ·exact .inr (JX sub c)
theorem XT {t : A3} {s : Ad} (h : GI t s) {n : Int} (hn : BY t n = true) (hno : n ∉ s.has) (hup : (t.at n.toNat).up ∈ s.has) (hk : (t.at n.toNat).kind = 3) (ht : 0 ≤ (t.at n.toNat).thread) {loc : Nat} (hl : (t.at n.toNat).loc = loc) (hll : loc < s.mo.length)
  (hin : ∀ c ∈ s.mo.getD loc [], ∀ x ∈ c, x ∈ s.has) : GI t { CA s n (-1) with mo := s.mo.set loc (s.mo.getD loc [] ++ [[n]]) } := by
 have sub : ∀ x, x ∈ s.has → x ∈ Bi s.has (Bz s.has n) n := fun x hx => Ch.2 (.inr hx)
 have hself : (s.mo.set loc (s.mo.getD loc [] ++ [[n]])).getD loc [] = s.mo.getD loc [] ++ [[n]] := by rw [List.getD_eq_getElem?_getD (l := s.mo.set _ _), List.getElem?_set, if_pos rfl, if_pos hll]; rfl
 have hoth : ∀ k, k ≠ loc → (s.mo.set loc (s.mo.getD loc [] ++ [[n]])).getD k [] = s.mo.getD k [] := fun k hk => by rw [List.getD_eq_getElem?_getD (l := s.mo.set _ _), List.getElem?_set, if_neg (Ne.symm hk), ← List.getD_eq_getElem?_getD]
 have hcls : Cc t [n] (Bi s.has (Bz s.has n) n) loc = true := by
  simp only [Cc, Bool.and_eq_true, Am, Bl, A7, List.length_singleton]
  refine ⟨rfl, fun i hi => ?_⟩
  obtain rfl : i = 0 := by omega
  refine ⟨⟨⟨⟨Ch.2 (.inl rfl), rfl⟩, ?_⟩, decide_eq_true ht⟩, fun k hk => by omega⟩
  simp [Hx, hk, hl]
 refine RZ h hn hno hup (by simp [okJ, hk]) (by rw [List.length_set]) ?_ ?_ ?_
 ·intro k hkl
  by_cases c : k = loc
  ·subst c
   have hm := h.mo k hkl
   simp only [DR, hself, Bool.and_eq_true, Am, Bool.or_eq_true, Bool.not_eq_true', decide_eq_true_eq, decide_eq_false_iff_not] at hm ⊢
   obtain ⟨⟨m1, m2⟩, m3⟩ := hm
   have hpos : 0 < (s.mo.getD k []).length := by omega
   refine ⟨⟨by simp, ?_⟩, fun i hi => ?_⟩
   ·rw [List.getD_eq_getElem?_getD, List.getElem?_append_left hpos, ← List.getD_eq_getElem?_getD]; exact m2
   ·by_cases ci : i < (s.mo.getD k []).length
    ·have e : (s.mo.getD k [] ++ [[n]]).getD i [] = (s.mo.getD k []).getD i [] := by rw [List.getD_eq_getElem?_getD, List.getElem?_append_left ci, ← List.getD_eq_getElem?_getD]
     rw [e]
     rcases m3 i ci with c | c
     ·exact .inl c
     ·exact .inr (JX sub c)
    ·rw [List.length_append, List.length_singleton] at hi
     have ei : i = (s.mo.getD k []).length := by omega
     have e : (s.mo.getD k [] ++ [[n]]).getD i [] = [n] := by rw [List.getD_eq_getElem?_getD, List.getElem?_append_right (by omega), ei, Nat.sub_self]; rfl
     rw [e]
     exact .inr hcls
  ·have hm := h.mo k hkl
   simp only [DR, hoth k c, Bool.and_eq_true, Am, Bool.or_eq_true] at hm ⊢
   refine ⟨hm.1, fun i hi => ?_⟩
   rcases hm.2 i hi with d | d
   ·exact .inl d
   ·exact .inr (JX sub d)
 ·intro x hx kx
  by_cases c : (t.at x.toNat).loc.toNat = loc
  ·rw [c, hself, List.filter_append]
   have : Bd [n] x = false := Bool.eq_false_iff.2 fun d => hno (by rw [← List.mem_singleton.1 (A7.1 d)]; exact hx)
   simp [this]
  ·rw [hoth _ c]
 ·intro _
  rw [hl, Int.toNat_natCast, hself, List.filter_append]
  have e : (s.mo.getD loc []).filter (fun c => Bd c n) = [] := by
   rw [List.filter_eq_nil_iff]
   intro c hc d
   exact hno (hin c hc n (A7.1 d))
  rw [e]
  simp [Bd]
end Go.AM

namespace Go.AM
open Go Go.Proofs
theorem XM (t : A3) (x f : List Int) (w : Int) (a : Nat) : ∀ k, Dm t x f (a + k) w = Dm t x f k (Dm t x f a w)
 | 0 => rfl
 | k + 1 => by rw [← Nat.add_assoc, Dm, XM t x f w a k]; rfl
theorem WM (t : A3) (x f : List Int) (w : Int) : ∀ (N j : Nat), j ≤ N → (∀ i, i ≤ j → Dm t x f i w ∈ x) → ∃ k, k ≤ j ∧ k < x.length ∧ Dm t x f k w = Dm t x f j w
 | N, j, hN, h => by
  by_cases c : j < x.length
  ·exact ⟨j, Nat.le_refl _, c, rfl⟩
  ·have hnd : ¬ ((List.range (j + 1)).map fun i => Dm t x f i w).Nodup := by
    intro hd
    have := JB _ x hd (fun y hy => by
     obtain ⟨i, hi, rfl⟩ := List.mem_map.1 hy
     exact h i (by have := List.mem_range.1 hi; omega))
    simp at this; omega
   have : ∃ a b, a < b ∧ b ≤ j ∧ Dm t x f a w = Dm t x f b w := by
    apply Classical.byContradiction
    intro hno
    apply hnd
    rw [List.nodup_iff_pairwise_ne, List.pairwise_iff_getElem]
    intro a b ha hb hab e
    simp only [List.length_map, List.length_range, List.getElem_map, List.getElem_range] at ha hb e
    exact hno ⟨a, b, hab, by omega, e⟩
   obtain ⟨a, b, hab, hbj, e⟩ := this
   match N with
   | 0 => omega
   | N + 1 =>
    obtain ⟨k, h1, h2, h3⟩ := WM t x f w N (j - (b - a)) (by omega) (fun i hi => h i (by omega))
    refine ⟨k, by omega, h2, h3.trans ?_⟩
    have e1 := XM t x f w a (j - b)
    have e2 := XM t x f w b (j - b)
    rw [e] at e1
    rw [show j - (b - a) = a + (j - b) by omega, e1, ← e2, show b + (j - b) = j by omega]
section
variable {t : A3} (ht : A8 t) {s s' : Ad} {n : Nat} (E : Ext t s s') (hF : CY t s.has s.jf) (hF' : CY t s'.has s'.jf) (up : ∀ n, n ∈ s.has → (t.at n.toNat).up < 0 ∨ (t.at n.toNat).up ∈ s.has)
 (new : ∀ x, x ∈ s'.has → x = (n : Int) ∨ x ∈ s.has) (hno : (n : Int) ∉ s.has) (fr : ∀ b : Nat, (b : Int) ∈ s.has → AD t n b = false) (onN : (t.at n).kind = 2 → HC s'.has s'.jf n ∈ s.has)
include ht E hF hF' up new hno fr onN
theorem A81 {w : Int} {a : Nat} (hw : w ∈ s.has) (h : (M8 t s'.has w).getLsbD a = true) : (M8 t s.has w).getLsbD a = true := by
 rw [M8, AA, Bool.and_eq_true] at h ⊢
 refine ⟨?_, h.2⟩
 have h := h.1
 simp only [A6b, Bool.or_eq_true, Bool.and_eq_true, A7] at h ⊢
 rcases h with h | h
 ·exact .inl h
 ·refine .inr ⟨⟨⟨?_, h.1.1.2⟩, h.1.2⟩, h.2⟩
  rcases new _ h.1.1.1 with e | e
  ·obtain ⟨m, rfl, _⟩ := Aj (hF.node w hw)
   have := fr m hw
   rw [← e, h.2] at this; cases this
  ·exact e
theorem A75 {w : Int} (hw : w ∈ s.has) : ∀ i, (∀ k, k < i → LZ t (Dm t s'.has s'.jf k w) = false) → Dm t s'.has s'.jf i w = Dm t s.has s.jf i w ∧ (Dm t s.has s.jf i w ∈ s.has ∨ Dm t s.has s.jf i w = -1)
 | 0, _ => ⟨rfl, .inl hw⟩
 | i + 1, h => by
  obtain ⟨e, m⟩ := A75 hw i (fun k hk => h k (by omega))
  have ho := h i (by omega)
  rcases m with m | m
  ·rw [Dm, e, Aah ht E hF hF' up m, ← Dm]
   refine ⟨rfl, ?_⟩
   rw [Dm]
   rcases A1S ht hF m with c | c
   ·exact .inr c
   ·exact .inl c.1
  ·rw [e, m] at ho; cases ho
theorem WF {w : Int} {a : Nat} (hw : w ∈ s.has) (h : BR (BN t s'.has s'.jf w) (a : Int) = true) : BR (BN t s.has s.jf w) (a : Int) = true := by
 rw [B0] at h ⊢
 obtain ⟨j, _, h2, h3⟩ := (DX _ _ _ _ _ _).1 h
 have hin : ∀ i, i ≤ j → Dm t s'.has s'.jf i w = Dm t s.has s.jf i w ∧ Dm t s.has s.jf i w ∈ s.has := fun i hi => by
  obtain ⟨e, m⟩ := A75 ht E hF hF' up new hno fr onN hw i (fun k hk => h2 k (by omega))
  rcases m with m | m
  ·exact ⟨e, m⟩
  ·have := h2 i hi
   rw [e, m] at this; cases this
 obtain ⟨k, k1, k2, k3⟩ := WM t s.has s.jf w j j (Nat.le_refl _) (fun i hi => (hin i hi).2)
 refine (DX _ _ _ _ _ _).2 ⟨k, by omega, fun i hi => by rw [← (hin i (by omega)).1]; exact h2 i (by omega), ?_⟩
 rw [k3]
 rw [(hin j (Nat.le_refl _)).1] at h3
 exact A81 ht E hF hF' up new hno fr onN (hin j (Nat.le_refl _)).2 h3
theorem Vh {a b : Nat} (h : Lm t s'.has s'.jf a b = true) : (a : Int) ∈ s.has ∧ ((b : Int) = n ∨ Lm t s.has s.jf a b = true) := by
 simp only [Lm, Bool.or_eq_true, Bool.and_eq_true, A7] at h ⊢
 rcases h with ⟨⟨ha, hb⟩, hbf⟩ | h
 ·have ha' : (a : Int) ∈ s.has := by
   rcases new _ ha with e | e
   ·rcases new _ hb with e2 | e2
    ·have := EV ht hbf; omega
    ·have := fr b e2
     rw [← e, hbf] at this; cases this
   ·exact e
  refine ⟨ha', ?_⟩
  rcases new _ hb with e | e
  ·exact .inl e
  ·exact .inr (.inl ⟨⟨ha', e⟩, hbf⟩)
 ·simp only [swB, List.any_eq_true, Bool.and_eq_true] at h ⊢
  obtain ⟨r, hr, ⟨hs, hh⟩, he⟩ := h
  have hk : (t.at r.toNat).kind = 2 := by simp only [Kw, Bool.and_eq_true, decide_eq_true_eq] at hs; exact hs.1
  obtain ⟨hb, hbe⟩ := XR hr he
  rcases new _ hr with rfl | hr'
  ·rw [Int.toNat_natCast] at hk
   have hh := WF ht E hF hF' up new hno fr onN (onN hk) hh
   obtain ⟨_, _, ha, _⟩ := NJ ht hF (onN hk) hh
   refine ⟨ha, .inl ?_⟩
   rcases hbe with e | e
   ·exact e
   ·rcases new _ hb with c | c
    ·exact c
    ·have := fr b c
     rw [e.2] at this; cases this
  ·have hw := (hF.read r hr' hk).1
   rw [E.on r hr'] at hh
   have hh := WF ht E hF hF' up new hno fr onN hw hh
   obtain ⟨_, _, ha, _⟩ := NJ ht hF hw hh
   refine ⟨ha, ?_⟩
   rcases new _ hb with c | c
   ·exact .inl c
   ·refine .inr (.inr ⟨r, hr', ⟨?_, hh⟩, ?_⟩)
    ·unfold Kw at hs ⊢; rw [E.on r hr'] at hs; exact hs
    ·simp only [HX, Bool.or_eq_true, Bool.and_eq_true, A7] at he ⊢
     rcases he with he | he
     ·exact .inl he
     ·exact .inr ⟨⟨⟨c, he.1.1.2⟩, he.1.2⟩, he.2⟩
theorem A91 {a b : Nat} (h : Ll (Lm t s'.has s'.jf) t.nodes.length a b) : (a : Int) ∈ s.has ∧ ((b : Int) = n ∨ Ll (Lm t s.has s.jf) t.nodes.length a b) := by
 induction h with
 | one hb h =>
  obtain ⟨h1, h2⟩ := Vh ht E hF hF' up new hno fr onN h
  refine ⟨h1, ?_⟩
  rcases h2 with h2 | h2
  ·exact .inl h2
  ·exact .inr (.one hb h2)
 | more h1 hc h ih =>
  obtain ⟨k1, k2⟩ := Vh ht E hF hF' up new hno fr onN h
  refine ⟨ih.1, ?_⟩
  rcases ih.2 with c | c
  ·rw [c] at k1; exact absurd k1 hno
  ·rcases k2 with k2 | k2
   ·exact .inl k2
   ·exact .inr (.more c hc k2)
theorem A61 (hf' : BX t s' = true) (h : PU t s = true) (hp : ∀ a : Nat, (a : Int) ∈ s.has → DO t s' a n = true) : PU t s' = true := by
 have h64 := ht.n64
 rw [PU, Bool.and_eq_true] at h
 obtain ⟨hf, hq⟩ := h
 have hlen : s.has.length = s.jf.length := hF.len
 have hlen' : s'.has.length = s'.jf.length := hF'.len
 rw [PU, hf', Bool.true_and, List.all_eq_true]
 intro x hx
 obtain ⟨a, b, ha, rfl, hpt⟩ := (E0 h64 _ _).1 hx
 obtain ⟨ma, hb⟩ := A91 ht E hF hF' up new hno fr onN hpt
 rcases hb with hb | hb
 ·show DO t s' a b = true
  rw [hb]; exact hp a ma
 ·have mb := (Uo ht hF hb).2
  have hk := List.all_eq_true.1 hq _ ((E0 h64 _ _).2 ⟨a, b, ha, rfl, hb⟩)
  have src : ∀ n : Nat, (n : Int) ∈ s.has → (if (t.at n).kind = 2 then UK s' n else (n : Int)) = (if (t.at n).kind = 2 then UK s n else (n : Int)) ∧ ((if (t.at n).kind = 2 then UK s n else (n : Int)) ∈ s.has) := by
   intro n hn
   by_cases c : (t.at n).kind = 2
   ·rw [if_pos c, if_pos c, S7 hlen, S7 hlen', E.on _ hn]
    exact ⟨rfl, (hF.read _ hn c).1⟩
   ·rw [if_neg c, if_neg c]; exact ⟨rfl, hn⟩
  obtain ⟨ea, sa⟩ := src a ma
  obtain ⟨eb, sb⟩ := src b mb
  simp only [DO, Zf, Int.toNat_natCast] at hk ⊢
  rw [ea, eb]
  simp only [DG, Bool.or_eq_true] at hk ⊢
  rcases hk with hk | hk
  ·exact .inl hk
  ·by_cases cl : (t.at a).loc = (t.at b).loc
   ·refine .inr ?_
    rw [cl] at hk ⊢
    have p1 := E.place (t.at b).loc _ _ sa sb
    have p2 := E.place (t.at b).loc _ _ sb sa
    by_cases c : (t.at b).kind = 2
    ·rw [if_pos c] at hk ⊢
     have := of_decide_eq_true hk
     exact decide_eq_true (by omega)
    ·rw [if_neg c] at hk ⊢
     have := of_decide_eq_true hk
     exact decide_eq_true (by omega)
   ·exact .inl (.inr (by rw [decide_eq_false cl]; rfl))
end
end Go.AM

namespace Go.AM
open Go Go.Proofs
theorem A1N {α : Type} (p : α → Bool) (l : List α) : Ci p l < l.length := by
 cases h : l.any p with
 | false => rw [Qw h]; omega
 | true =>
  obtain ⟨k, e, hk, _⟩ := Js h
  rw [e]; omega
/-- The last Write of a location. -/
def Df (s : Ad) (loc : Nat) : Int := ((s.mo.getD loc []).getD ((s.mo.getD loc []).length - 1) []).getD 0 0
structure WI (t : A3) (s : Ad) (mem : List Int) (k : Nat) : Prop where
 gr : Gr t s k
 kl : k ≤ s.has.length
 form : GI t s
 coh : PU t s = true
 one : ∀ loc, loc < s.mo.length → ∀ c ∈ s.mo.getD loc [], ∃ w : Nat, c = [(w : Int)] ∧ (w : Int) ∈ s.has ∧ (t.at w).kind = 3 ∧ (t.at w).loc = loc
 ml : mem.length = t.locs.length
 mem : ∀ loc, loc < t.locs.length → mem.getD loc 0 = (t.at (Df s loc).toNat).val
theorem GI.len {t : A3} {s : Ad} (h : GI t s) : s.has.length ≤ t.nodes.length := by
 have hd : s.has.Nodup := h.ris.imp fun h => by omega
 have := JB s.has ((List.range t.nodes.length).map fun (i : Nat) => (i : Int)) hd (fun x hx => by
  obtain ⟨m, rfl, hm⟩ := Aj (h.node x hx)
  exact List.mem_map.2 ⟨m, List.mem_range.2 hm, rfl⟩)
 simpa using this
theorem WI.k64 {t : A3} (ht : A8 t) {s : Ad} {mem : List Int} {k : Nat} (W : WI t s mem k) : k ≤ 64 := by
 have h1 := W.form.len
 have h2 := ht.n64
 have h3 := W.kl
 omega
theorem WI.pos {t : A3} {s : Ad} {mem : List Int} {k : Nat} (W : WI t s mem k) {loc : Nat} (hl : loc < s.mo.length) : 0 < (s.mo.getD loc []).length := by
 have := (W.gr.big.mi _ (Aq (d := []) hl)).1
 exact List.length_pos_iff.2 this
theorem WI.last {t : A3} {s : Ad} {mem : List Int} {k : Nat} (W : WI t s mem k) {loc : Nat} (hl : loc < s.mo.length) :
  ∃ w : Nat, Df s loc = w ∧ (w : Int) ∈ s.has ∧ (t.at w).kind = 3 ∧ (t.at w).loc = loc ∧ Bt s loc w = ((s.mo.getD loc []).length - 1 : Nat) := by
 have hp := W.pos hl
 have hlt : (s.mo.getD loc []).length - 1 < (s.mo.getD loc []).length := by omega
 obtain ⟨w, e, h1, h2, h3⟩ := W.one loc hl _ (Aq (d := []) hlt)
 refine ⟨w, by rw [Df, e]; rfl, h1, h2, h3, ?_⟩
 rw [Bt, if_neg (by omega), Int.toNat_natCast]
 have ho := W.form.once _ h1 (by rw [Int.toNat_natCast]; exact h2)
 rw [Int.toNat_natCast, h3, Int.toNat_natCast] at ho
 have e2 : (s.mo.getD loc [])[(s.mo.getD loc []).length - 1] = [(w : Int)] := by
  rw [← e, List.getD_eq_getElem?_getD (l := s.mo.getD loc []), List.getElem?_eq_getElem hlt]; rfl
 refine D4 hlt (by rw [e2]; simp [Bd]) (fun j hj => ?_)
 rw [Bool.eq_false_iff]
 intro hc
 obtain ⟨L, hL⟩ : ∃ L, L = s.mo.getD loc [] := ⟨_, rfl⟩
 rw [← hL] at ho hj hlt hp
 simp only [← hL] at e2 hc
 have hsp : L = L.take (j + 1) ++ L.drop (j + 1) := (List.take_append_drop _ _).symm
 rw [hsp, List.filter_append, List.length_append] at ho
 have p1 : 0 < ((L.take (j + 1)).filter fun c => Bd c (w : Int)).length := by
  refine List.length_pos_of_mem (a := L[j]) (List.mem_filter.2 ⟨?_, hc⟩)
  rw [List.mem_take_iff_getElem]
  exact ⟨j, by omega, rfl⟩
 have p2 : 0 < ((L.drop (j + 1)).filter fun c => Bd c (w : Int)).length := by
  refine List.length_pos_of_mem (a := L[L.length - 1]) (List.mem_filter.2 ⟨?_, by rw [e2]; simp [Bd]⟩)
  rw [List.mem_drop_iff_getElem]
  exact ⟨L.length - 1 - (j + 1), by omega, by congr 1; omega⟩
 omega
section
variable {t : A3} (ht : A8 t) {s : Ad} {mem : List Int} {k : Nat} (W : WI t s mem k) {n : Nat} (hn : n < t.nodes.length) (hno : (n : Int) ∉ s.has) (hup : (t.at n).up ∈ s.has) (fr : ∀ b : Nat, (b : Int) ∈ s.has → AD t n b = false)
include ht W hn hno hup
theorem NL {kind w : Int} (hk : (t.at n).kind = kind) : De t s n kind w = some (CA s n w) := by
 have h1 : Cr t s n kind = true := by
  simp only [Cr, EX.2 W.form, Ck hn, Int.toNat_natCast, hk, A7.2 hup, Bool.eq_false_iff.2 (fun c => hno (A7.1 c))]
  simp
 rw [De, if_pos h1]
include fr
theorem Zd {s' : Ad} {w : Int} (E : Ext t s s') (hf' : GI t s') (e1 : s'.has = Bi s.has (Bz s.has n) n) (e2 : s'.jf = Bi s.jf (Bz s.has n) w) (hw : (t.at n).kind = 2 → w ∈ s.has)
  (hp : (t.at n).kind = 2 ∨ (t.at n).kind = 3 → ∀ v, v ∈ s.has → if (t.at n).kind = 2 then Bt s' (t.at n).loc v ≤ Bt s' (t.at n).loc w else Bt s' (t.at n).loc v < Bt s' (t.at n).loc n) : PU t s' = true := by
 have hF := Gd (Hw (EX.2 W.form))
 have hF' := Gd (Hw (EX.2 hf'))
 have hk := DC s.has n
 have hon : HC s'.has s'.jf n = w := by
  have := hF'.at_ (Bz s.has n) (by rw [e1, CR hk]; omega)
  rw [e1, e2, NQ hk, NQ (by rw [W.form.jl]; exact hk)] at this
  rw [e1, e2]; exact this
 refine A61 ht E hF hF' W.form.up (fun x hx => by rw [e1] at hx; exact Ch.1 hx) hno fr (fun c => by rw [hon]; exact hw c) (EX.2 hf') W.coh (fun a ha => ?_)
 have sa : (if (t.at a).kind = 2 then UK s' a else (a : Int)) ∈ s.has := by
  by_cases c : (t.at a).kind = 2
  ·rw [if_pos c, S7 hF'.len, E.on _ ha]; exact (hF.read _ ha c).1
  ·rw [if_neg c]; exact ha
 have e0 : DO t s' a n = DG (t.at a) (t.at n) (Zf t s' a) (Zf t s' n) := by rw [DO, Int.toNat_natCast, Int.toNat_natCast]
 have ea : Zf t s' a = Bt s' (t.at a).loc (if (t.at a).kind = 2 then UK s' a else (a : Int)) := by rw [Zf, Int.toNat_natCast]
 have eb : Zf t s' n = Bt s' (t.at n).loc (if (t.at n).kind = 2 then UK s' n else (n : Int)) := by rw [Zf, Int.toNat_natCast]
 rw [e0, ea, eb]
 by_cases c : (t.at n).kind = 2 ∨ (t.at n).kind = 3
 ·by_cases cl : (t.at a).loc = (t.at n).loc
  ·have := hp c _ sa
   rw [cl]
   simp only [DG, Bool.or_eq_true]
   refine .inr ?_
   by_cases c2 : (t.at n).kind = 2
   ·rw [if_pos c2] at this
    rw [if_pos c2, if_pos c2, show UK s' n = w from by rw [S7 hF'.len]; exact hon]
    exact decide_eq_true this
   ·rw [if_neg c2] at this
    rw [if_neg c2, if_neg c2]
    exact decide_eq_true this
  ·simp only [DG, Bool.or_eq_true]
   exact .inl (.inr (by rw [decide_eq_false cl]; rfl))
 ·simp only [DG, Bool.or_eq_true]
  refine .inl (.inl (.inr ?_))
  rw [decide_eq_false (fun h => c (.inl h)), decide_eq_false (fun h => c (.inr h))]; rfl
theorem Aar (hk : (t.at n).kind = 4) : WI t (CA s n (-1)) mem (k + 1) := by
 have hm := NL ht W hn hno hup (w := -1) hk
 have hki := DC s.has n
 have hf : GI t (CA s n (-1)) := RP W.form (Ck hn) hno (by rw [Int.toNat_natCast]; exact hup) (by simp [okJ, hk]) (by rw [Int.toNat_natCast]; omega)
 exact ⟨Te W.gr hm, by show k + 1 ≤ (Bi _ _ _).length; rw [CR hki]; have := W.kl; omega, hf,
  Zd ht W hn hno hup fr (JD hm).1 hf rfl rfl (fun c => by omega) (fun c => by omega), fun loc hl c hc => by
   obtain ⟨w, a, b, d⟩ := W.one loc hl c hc
   exact ⟨w, a, (JD hm).1.has _ b, d⟩, W.ml, W.mem⟩
theorem A7j {loc : Nat} (hk : (t.at n).kind = 2) (hloc : (t.at n).loc = loc) (hv : (t.at n).val = mem.getD loc 0) : S0 t s n (Df s loc) = some (CA s n (Df s loc)) ∧ WI t (CA s n (Df s loc)) mem (k + 1) := by
 have hm := NL ht W hn hno hup (w := Df s loc) hk
 have hki := DC s.has n
 have hl : loc < s.mo.length := by
  have := (ht.wloc hn (.inl hk)).2
  have := W.form.ml
  omega
 obtain ⟨w, e, w1, w2, w3, w4⟩ := W.last hl
 have hj : okJ t s.has n (Df s loc) = true := by
  have hmem := W.mem loc (by have := W.form.ml; omega)
  rw [e, Int.toNat_natCast] at hmem
  simp only [okJ, Int.toNat_natCast, hk, if_true, e, Hx, w2, w3, hloc, A7.2 w1, hv, hmem, decide_true, Bool.and_self]
 have hf : GI t (CA s n (Df s loc)) := RP W.form (Ck hn) hno (by rw [Int.toNat_natCast]; exact hup) hj (by rw [Int.toNat_natCast]; omega)
 have hrd : S0 t s n (Df s loc) = some (CA s n (Df s loc)) := by
  rw [S0, hm]
  simp only [EX.2 hf, if_true]
 refine ⟨hrd, Te W.gr hm, by show k + 1 ≤ (Bi _ _ _).length; rw [CR hki]; have := W.kl; omega, hf,
  Zd ht W hn hno hup fr (JD hm).1 hf rfl rfl (fun c => by rw [e]; exact w1) (fun c v hv => ?_), fun loc hl c hc => ?_, W.ml, W.mem⟩
 ·rw [if_pos hk, hloc, e]
  show Bt s loc v ≤ Bt s loc w
  rw [w4]
  rw [Bt, if_neg (by omega), Int.toNat_natCast]
  have := A1N (fun c => Bd c v) (s.mo.getD loc [])
  have := W.pos hl
  omega
 ·obtain ⟨w, a, b, d⟩ := W.one loc hl c hc
  exact ⟨w, a, (JD hm).1.has _ b, d⟩
theorem A74 {loc : Nat} (hk : (t.at n).kind = 3) (hth : 0 ≤ (t.at n).thread) (hloc : (t.at n).loc = loc) :
  ∃ s', Hc t s n ((s.mo.getD loc []).length : Nat) = some s' ∧ WI t s' (mem.set loc (t.at n).val) (k + 1) ∧ ∀ x, x ∈ s'.has ↔ x = (n : Int) ∨ x ∈ s.has := by
 have hm := NL ht W hn hno hup (w := -1) hk
 have hki := DC s.has n
 have hl : loc < s.mo.length := by
  have := (ht.wloc hn (.inr hk)).2
  have := W.form.ml
  omega
 have hp := W.pos hl
 have hin : ∀ c ∈ s.mo.getD loc [], ∀ x ∈ c, x ∈ s.has := fun c hc x hx => by
  obtain ⟨w, e, h1, _⟩ := W.one loc hl c hc
  rw [e] at hx
  rw [List.mem_singleton.1 hx]; exact h1
 have hf := XT W.form (Ck hn) hno (by rw [Int.toNat_natCast]; exact hup) (by rw [Int.toNat_natCast]; exact hk) (by rw [Int.toNat_natCast]; exact hth) (by rw [Int.toNat_natCast]; exact hloc) hl hin
 have hwr : Hc t s n ((s.mo.getD loc []).length : Nat) = some { CA s n (-1) with mo := s.mo.set loc (s.mo.getD loc [] ++ [[(n : Int)]]) } := by
  rw [Hc, hm]
  simp only [Int.toNat_natCast, hloc]
  rw [if_neg (by show ¬ ((((s.mo.getD loc []).length : Nat) : Int) < 1 ∨ (((s.mo.getD loc []).length : Nat) : Int) < _); omega)]
  show some ({ CA s n (-1) with mo := s.mo.set loc ((s.mo.getD loc []).take _ ++ [(n : Int)] :: (s.mo.getD loc []).drop _) } : Ad) = _
  rw [List.take_length, List.drop_length]
 have hself : (s.mo.set loc (s.mo.getD loc [] ++ [[(n : Int)]])).getD loc [] = s.mo.getD loc [] ++ [[(n : Int)]] := by rw [List.getD_eq_getElem?_getD (l := s.mo.set _ _), List.getElem?_set, if_pos rfl, if_pos hl]; rfl
 have hoth : ∀ k, k ≠ loc → (s.mo.set loc (s.mo.getD loc [] ++ [[(n : Int)]])).getD k [] = s.mo.getD k [] := fun k hk => by rw [List.getD_eq_getElem?_getD (l := s.mo.set _ _), List.getElem?_set, if_neg (Ne.symm hk), ← List.getD_eq_getElem?_getD]
 obtain ⟨E, _⟩ := A2X hwr
 refine ⟨_, hwr, ⟨A4M W.gr hwr, by show k + 1 ≤ (Bi _ _ _).length; rw [CR hki]; have := W.kl; omega, hf, Zd ht W hn hno hup fr E hf rfl rfl (fun c => by omega) (fun c v hv => ?_), ?_, ?_, ?_⟩, fun x => Ch⟩
 ·rw [if_neg (by omega), hloc]
  have hb : ¬ ((loc : Int) < 0 ∨ ((s.mo.set loc (s.mo.getD loc [] ++ [[(n : Int)]])).length : Int) ≤ loc) := by rw [List.length_set]; omega
  simp only [Bt, if_neg hb, Int.toNat_natCast, hself]
  have e1 : Ci (fun c => Bd c (n : Int)) (s.mo.getD loc [] ++ [[(n : Int)]]) = ((s.mo.getD loc []).length : Nat) := by
   refine D4 (by simp) (by simp [Bd]) (fun j hj => ?_)
   rw [List.getElem_append_left hj, Bool.eq_false_iff]
   intro c
   exact hno (hin _ (List.getElem_mem hj) _ (A7.1 c))
  have e2 : Bd [(n : Int)] v = false := Bool.eq_false_iff.2 fun c => hno (by rw [← List.mem_singleton.1 (A7.1 c)]; exact hv)
  have e3 := LM (p := fun c => Bd c v) (y := [(n : Int)]) e2 (s.mo.getD loc []) _ (Nat.le_refl _)
  rw [List.take_length, List.drop_length] at e3
  have := A1N (fun c => Bd c v) (s.mo.getD loc [])
  rw [if_pos this] at e3
  rw [e1, e3]; exact this
 ·intro l hl0 c hc
  have hl' : l < s.mo.length := by have h : l < (s.mo.set loc (s.mo.getD loc [] ++ [[(n : Int)]])).length := hl0; rwa [List.length_set] at h
  by_cases cl : l = loc
  ·subst cl
   rw [hself, List.mem_append] at hc
   rcases hc with hc | hc
   ·obtain ⟨w, a, b, d⟩ := W.one l hl' c hc
    exact ⟨w, a, E.has _ b, d⟩
   ·rw [List.mem_singleton] at hc
    exact ⟨n, hc, Ch.2 (.inl rfl), hk, hloc⟩
  ·rw [hoth l cl] at hc
   obtain ⟨w, a, b, d⟩ := W.one l hl' c hc
   exact ⟨w, a, E.has _ b, d⟩
 ·rw [List.length_set]; exact W.ml
 ·intro l hl'
  have hl'' : l < mem.length := by rw [W.ml]; exact hl'
  by_cases cl : l = loc
  ·subst cl
   have e1 : Df { CA s n (-1) with mo := s.mo.set l (s.mo.getD l [] ++ [[(n : Int)]]) } l = n := by
    simp only [Df, hself]
    rw [List.length_append, List.length_singleton, Nat.add_sub_cancel, List.getD_eq_getElem?_getD (l := s.mo.getD l [] ++ _), List.getElem?_append_right (Nat.le_refl _), Nat.sub_self]
    rfl
   rw [e1, Int.toNat_natCast, List.getD_eq_getElem?_getD, List.getElem?_set, if_pos rfl, if_pos hl'']; rfl
  ·have e1 : Df { CA s n (-1) with mo := s.mo.set loc (s.mo.getD loc [] ++ [[(n : Int)]]) } l = Df s l := by
    simp only [Df, hoth l cl]
   rw [e1, List.getD_eq_getElem?_getD, List.getElem?_set, if_neg (Ne.symm cl), ← List.getD_eq_getElem?_getD]
   exact W.mem l hl'
end
end Go.AM

namespace Go.AM
open Go Go.Proofs
theorem Jc.moreN {t : A3} : ∀ {n u e : Nat}, Jc t n u e → u < e ∧ ∀ m, u < m → m < e → 0 ≤ (t.at m).up ∧ ((t.at m).rmw = true → (t.at m).kind = 3) := by
 intro n
 induction n with
 | zero => intro u e h; exact absurd h (by simp [Jc])
 | succ n ih =>
  intro u e h
  obtain ⟨⟨_, ht, _⟩, h⟩ := h
  rcases h with ⟨_, _, rfl⟩ | ⟨c, _, _, al, hb⟩ | ⟨c, _, _, vals, k, loc, mode, _, hv0, hk0, hke, hloc, hs, _⟩
  ·exact ⟨by omega, fun m h1 h2 => by omega⟩
  ·have := (ih hb).1
   refine ⟨by omega, fun m h1 h2 => ?_⟩
   by_cases e1 : m = u + 1
   ·subst e1
    refine ⟨by rw [(JI c).1]; omega, fun hr => ?_⟩
    simp only [D3, Bool.or_eq_true, Bool.and_eq_true, decide_eq_true_eq, Bool.not_eq_true'] at al
    rcases al with h | h
    ·rw [h.1.1.2] at hr; cases hr
    ·exact h.1.1.1
   ·exact (ih hb).2 m (by omega) h2
  ·have mono : ∀ v, v ≤ vals → k 0 ≤ k v := by
    intro v
    induction v with
    | zero => intro _; omega
    | succ v iv => intro hv; have := iv (by omega); have := (ih (hs v (by omega)).2.2).1; omega
   refine ⟨by have := mono vals (by omega); omega, fun m h1 h2 => ?_⟩
   obtain ⟨v, hv, a, b⟩ := Ep (k := k) (m := m) vals (by omega) (by omega)
   obtain ⟨s1, s2, s3⟩ := hs v hv
   by_cases e1 : m = k v
   ·subst e1
    simp only [E7, Bool.and_eq_true, decide_eq_true_eq, Bool.not_eq_true'] at s2
    exact ⟨by rw [(JI s1).1]; omega, fun hr => by rw [s2.2] at hr; cases hr⟩
   ·exact (ih s3).2 m (by omega) b
/-- What is known of nodes that stand first, and of those beneath. -/
theorem A8.kinds {t : A3} (h : A8 t) : ∃ s : Nat → Nat, (∀ v, v < t.regs.length → s v < t.nodes.length ∧ t.locs.length ≤ s v ∧ (t.at (s v)).thread = v ∧ (t.at (s v)).up = -1 ∧ (t.at (s v)).kind = 1) ∧ (∀ m, m < t.nodes.length → m < t.locs.length ∨ (∃ v, v < t.regs.length ∧ m = s v) ∨ (0 ≤ (t.at m).up ∧ ((t.at m).rmw = true → (t.at m).kind = 3))) := by
 obtain ⟨s, h0, he, hs⟩ := h.thr
 have mono : ∀ d v, v + d ≤ t.regs.length → s v + d ≤ s (v + d) := by
  intro d
  induction d with
  | zero => intro v _; simp
  | succ d ih =>
   intro v hv
   have := ih v (by omega)
   obtain ⟨_, n, hn⟩ := hs (v + d) (by omega)
   have := hn.moreN.1
   rw [Nat.add_assoc] at this
   omega
 refine ⟨s, fun v hv => ?_, fun m hm => ?_⟩
 ·obtain ⟨hb, n, hn⟩ := hs v hv
  simp only [Ec, Bool.and_eq_true, decide_eq_true_eq] at hb
  have a := mono v 0 (by omega)
  have b := mono (t.regs.length - v) v (by omega)
  rw [show v + (t.regs.length - v) = t.regs.length by omega] at b
  rw [Nat.zero_add] at a
  exact ⟨by omega, by omega, hb.1.1.1.1.1.1, hb.1.1.1.1.1.2, hb.1.1.1.1.2⟩
 ·by_cases c : m < t.locs.length
  ·exact .inl c
  ·obtain ⟨v, hv, a, b⟩ := Ep (k := s) (m := m) t.regs.length (by omega) (by omega)
   obtain ⟨hb, n, hn⟩ := hs v hv
   by_cases e1 : m = s v
   ·exact .inr (.inl ⟨v, hv, e1⟩)
   ·exact .inr (.inr (hn.moreN.2 m (by omega) b))
theorem A8.top {t : A3} (h : A8 t) {m : Nat} (hm : m < t.nodes.length) (h0 : 0 ≤ (t.at m).thread) (hu : (t.at m).up < 0) : (t.at m).kind = 1 := by
 obtain ⟨s, h1, h2⟩ := h.kinds
 rcases h2 m hm with c | ⟨v, hv, rfl⟩ | c
 ·have := (h.init m c).thr; omega
 ·exact (h1 v hv).2.2.2.2
 ·omega
theorem A8.tops {t : A3} (h : A8 t) {m k : Nat} (hm : m < t.nodes.length) (hk : k < t.nodes.length) (h0 : 0 ≤ (t.at m).thread) (hu : (t.at m).up < 0) (huk : (t.at k).up < 0) (e : (t.at k).thread = (t.at m).thread) : k = m := by
 obtain ⟨s, h1, h2⟩ := h.kinds
 rcases h2 m hm with c | ⟨v, hv, rfl⟩ | c
 ·have := (h.init m c).thr; omega
 ·rcases h2 k hk with c | ⟨w, hw, rfl⟩ | c
  ·have := (h.init k c).thr; omega
  ·have a := (h1 v hv).2.2.1
   have b := (h1 w hw).2.2.1
   have : w = v := by omega
   rw [this]
  ·omega
 ·omega
theorem A8.rmw3 {t : A3} (h : A8 t) {m : Nat} (hm : m < t.nodes.length) (h0 : 0 ≤ (t.at m).up) (hr : (t.at m).rmw = true) : (t.at m).kind = 3 := by
 obtain ⟨s, h1, h2⟩ := h.kinds
 rcases h2 m hm with c | ⟨v, hv, rfl⟩ | c
 ·exact (h.init m c).kind
 ·have := (h1 v hv).2.2.2.1; omega
 ·exact c.2 hr
def RC (t : A3) (k : Nat) : List Nat := (List.range k).filter fun i => !decide ((t.at i).thread < 0) && decide ((t.at i).up < 0)
def La (t : A3) (k : Nat) : List Int := ((List.range k).filter fun i => decide ((t.at i).thread < 0)).map fun i => (t.at i).val
theorem A0X {t : A3} (h : A8 t) : La t t.nodes.length = (List.range t.locs.length).map fun i => (t.at i).val := by
 have hl := h.first.1
 have e : t.nodes.length = t.locs.length + (t.nodes.length - t.locs.length) := by omega
 unfold La
 congr 1
 rw [e, List.range_add, List.filter_append, List.filter_eq_self.2, List.filter_eq_nil_iff.2, List.append_nil]
 ·intro a ha
  obtain ⟨i, hi, rfl⟩ := List.mem_map.1 ha
  have hi := List.mem_range.1 hi
  have := (h.thr_iff (m := t.locs.length + i) (by omega)).1
  simp only [decide_eq_true_eq]
  omega
 ·intro a ha
  have ha := List.mem_range.1 ha
  exact decide_eq_true ((h.thr_iff (m := a) (by omega)).2 ha)
theorem Ez {t : A3} {x : Int} : x ∈ (Bq t).has ↔ ∃ m : Nat, x = m ∧ m < t.nodes.length ∧ (t.at m).up < 0 := by
 simp only [Bq, Ds, List.mem_map, List.mem_filter, List.mem_range, decide_eq_true_eq]
 constructor
 ·rintro ⟨i, ⟨h1, h2⟩, rfl⟩; exact ⟨i, rfl, h1, h2⟩
 ·rintro ⟨i, rfl, h1, h2⟩; exact ⟨i, ⟨h1, h2⟩, rfl⟩
theorem NO {t : A3} (h : A8 t) {m : Nat} (hm : m < t.nodes.length) (hu : (t.at m).up < 0) : (m < t.locs.length ∧ (t.at m).kind = 3) ∨ (t.locs.length ≤ m ∧ (t.at m).kind = 1) := by
 by_cases c : m < t.locs.length
 ·exact .inl ⟨c, (h.init m c).kind⟩
 ·refine .inr ⟨by omega, h.top hm ?_ hu⟩
  have := (h.thr_iff hm).1
  omega
theorem A19 {t : A3} {loc : Nat} (h : loc < t.locs.length) : (Bq t).mo.getD loc [] = [[(loc : Int)]] := by
 simp [Bq, h]
theorem A0k {t : A3} (h : A8 t) : GI t (Bq t) := by
 refine ⟨fun n hn => ?_, fun n hn => ?_, ?_, ?_, ?_, fun i hi => ?_, by simp [Bq], fun loc hl => ?_, fun n hn kn => ?_⟩
 ·obtain ⟨m, rfl, hm, _⟩ := Ez.1 hn; exact Ck hm
 ·obtain ⟨m, rfl, hm, hu⟩ := Ez.1 hn; exact .inl hu
 ·simp only [Bq, Ds, List.pairwise_map]
  exact (List.pairwise_lt_range.filter _).imp fun h => by omega
 ·apply BitVec.eq_of_getLsbD_eq
  intro i hi
  rw [BitVec.getLsbD_or, GY, AA]
  cases hc : (Cg (Bq t).has).getLsbD i with
  | true => simp
  | false =>
   rw [Bool.or_false, Bool.eq_false_iff]
   intro hx
   simp only [Bool.and_eq_true, decide_eq_true_eq] at hx
   have := NM (Bq t).has (x := (i : Int)) (by omega) (by omega)
   rw [B0, hc, A7.2 (Ez.2 ⟨i, rfl, hx.1.1, hx.1.2⟩)] at this; cases this
 ·simp [Bq]
 ·have hm := Aq (d := 0) hi
  obtain ⟨m, e, hm, hu⟩ := Ez.1 hm
  have hj : (Bq t).jf.getD i 0 = -1 := by
   have hi' : i < (Ds t t.nodes.length).length := hi
   simp [Bq, hi']
  rw [e, hj]
  rcases NO h hm hu with c | c <;> simp [okJ, c.2]
 ·have hl' : loc < t.locs.length := by simpa [Bq] using hl
  simp only [DR, A19 hl', Bool.and_eq_true, Am]
  refine ⟨⟨rfl, by simp⟩, fun i hi => ?_⟩
  have : i = 0 := by simp at hi; omega
  simp [this]
 ·obtain ⟨m, rfl, hm, hu⟩ := Ez.1 hn
  rw [Int.toNat_natCast] at kn ⊢
  rcases NO h hm hu with c | c
  ·rw [(h.init m c.1).loc, Int.toNat_natCast, A19 c.1]; simp [Bd]
  ·omega
theorem A7C {t : A3} {loc : Nat} (hl : loc < t.locs.length) : Df (Bq t) loc = loc := by
 rw [Df, A19 hl]; rfl
theorem A9M {t : A3} (h : A8 t) : PU t (Bq t) = true := by
 rw [PU, EX.2 (A0k h), Bool.true_and, List.all_eq_true]
 intro x hx
 obtain ⟨a, b, ha, rfl, hpt⟩ := (E0 h.n64 _ _).1 hx
 have edge : ∀ a b : Nat, Lm t (Bq t).has (Bq t).jf a b = true → (t.at b).kind = 1 := by
  intro a b hh
  simp only [Lm, Bool.or_eq_true, Bool.and_eq_true, A7] at hh
  rcases hh with ⟨⟨hA, hB⟩, hbf⟩ | hh
  ·obtain ⟨m, e, hm, hu⟩ := Ez.1 hB
   have e : b = m := by omega
   subst e
   rcases NO h hm hu with c | c
   ·exfalso
    have hth := (h.init b c.1).thr
    simp only [AD, Bool.and_eq_true, Int.toNat_natCast] at hbf
    have hb2 := hbf.2
    split at hb2
    ·have := of_decide_eq_true hb2; omega
    ·have hb' := EV h (a := a) (b := b) (by simp only [AD, Bool.and_eq_true, Int.toNat_natCast]; exact hbf)
     rename_i hn
     have := (h.thr_iff (m := a) (by omega)).2 (by omega)
     exact hn this
   ·exact c.2
  ·exfalso
   simp only [swB, List.any_eq_true, Bool.and_eq_true] at hh
   obtain ⟨r, hr, ⟨hs, _⟩, _⟩ := hh
   obtain ⟨m, rfl, hm, hu⟩ := Ez.1 hr
   simp only [Kw, Bool.and_eq_true, decide_eq_true_eq, Int.toNat_natCast] at hs
   rcases NO h hm hu with c | c <;> omega
 have kb : (t.at b).kind = 1 := by
  cases hpt with
  | one _ hh => exact edge _ _ hh
  | more _ _ hh => exact edge _ _ hh
 show DO t (Bq t) a b = true
 simp [DO, DG, kb]
theorem AeC {t : A3} (h : A8 t) : WI t (Bq t) (La t t.nodes.length) 0 := by
 refine ⟨A5l h, Nat.zero_le _, A0k h, A9M h, fun loc hl c hc => ?_, by rw [A0X h]; simp, fun loc hl => ?_⟩
 ·have hl' : loc < t.locs.length := by simpa [Bq] using hl
  rw [A19 hl', List.mem_singleton] at hc
  have I := h.init loc hl'
  exact ⟨loc, hc, Ez.2 ⟨loc, rfl, by have := h.first.1; omega, by rw [I.up]; decide⟩, I.kind, I.loc⟩
 ·rw [A0X h, A7C hl, Int.toNat_natCast]
  simp [hl]
/-- Where the threads stand. -/
structure StI (t : A3) (s : Ad) (at_ : List Nat) : Prop where
 has : ∀ u ∈ at_, (u : Int) ∈ s.has ∧ 0 ≤ (t.at u).thread
 top : ∀ u ∈ at_, ∀ x : Nat, (x : Int) ∈ s.has → (t.at x).thread = (t.at u).thread → x ≤ u
 pw : at_.Pairwise fun a b => (t.at a).thread ≠ (t.at b).thread
 chain : ∀ u ∈ at_, ∀ x : Nat, (x : Int) ∈ s.has → (t.at x).thread = (t.at u).thread → x = u ∨ AE t x u = true
 cov : ∀ x : Nat, (x : Int) ∈ s.has → 0 ≤ (t.at x).thread → ∃ u ∈ at_, (t.at u).thread = (t.at x).thread
theorem Ph {t : A3} (hu : K5 t) {x n m : Nat} (hn : n < t.nodes.length) (e : (t.at n).up = (m : Int)) : AE t x n = (decide (m = x) || AE t x m) := by
 unfold AE
 have := hu n hn
 rw [Hy hu x (by omega), e, if_neg (by omega), Int.toNat_natCast]
 by_cases c : m = x
 ·rw [if_pos (by omega), decide_eq_true c, Bool.true_or]
 ·rw [if_neg (by omega), decide_eq_false c, Bool.false_or]
theorem Ae6 {t : A3} (h : A8 t) : StI t (Bq t) (RC t t.nodes.length) := by
 have key : ∀ u ∈ RC t t.nodes.length, u < t.nodes.length ∧ 0 ≤ (t.at u).thread ∧ (t.at u).up < 0 := by
  intro u hu
  simp only [RC, List.mem_filter, List.mem_range, Bool.and_eq_true, Bool.not_eq_true', decide_eq_true_eq, decide_eq_false_iff_not] at hu
  exact ⟨hu.1, by omega, hu.2.2⟩
 refine ⟨fun u hu => ?_, fun u hu x hx e => ?_, ?_, fun u hu x hx e => ?_, fun x hx h0 => ?_⟩
 ·obtain ⟨a, b, c⟩ := key u hu
  exact ⟨Ez.2 ⟨u, rfl, a, c⟩, b⟩
 ·obtain ⟨a, b, c⟩ := key u hu
  obtain ⟨m, e1, hm, hv⟩ := Ez.1 hx
  have e1 : x = m := by omega
  subst e1
  exact Nat.le_of_eq (h.tops a hm b c hv e)
 ·have hp : (RC t t.nodes.length).Pairwise (· < ·) := List.pairwise_lt_range.filter _
  refine (List.Pairwise.and_mem.1 hp).imp ?_
  rintro a b ⟨ha, hb, hlt⟩ e
  obtain ⟨a1, a2, a3⟩ := key a ha
  obtain ⟨b1, b2, b3⟩ := key b hb
  have := h.tops b1 a1 b2 b3 a3 e
  omega
 ·obtain ⟨a, b, c⟩ := key u hu
  obtain ⟨m, e1, hm, hv⟩ := Ez.1 hx
  have e1 : x = m := by omega
  subst e1
  exact .inl (h.tops a hm b c hv e)
 ·obtain ⟨m, e1, hm, hv⟩ := Ez.1 hx
  have e1 : x = m := by omega
  subst e1
  refine ⟨x, ?_, rfl⟩
  simp only [RC, List.mem_filter, List.mem_range, Bool.and_eq_true, Bool.not_eq_true', decide_eq_true_eq, decide_eq_false_iff_not]
  exact ⟨hm, by omega, hv⟩
end Go.AM

namespace Go.AM
open Go Go.Proofs
theorem A7p {t : A3} (ht : A8 t) {a : Nat} : ∀ (n : Nat) (b : Nat), b < n → b < t.nodes.length → AE t a b = true → (t.at a).thread = (t.at b).thread := by
 intro n
 induction n with
 | zero => intro b h; omega
 | succ n ih =>
  intro b hbn hb h
  have hu := ht.up
  unfold AE at h
  have hub := hu b hb
  rw [Hy hu a (by omega)] at h
  by_cases c1 : (t.at b).up < 0
  ·rw [if_pos c1] at h; cases h
  ·rw [if_neg c1] at h
   have hl : t.locs.length ≤ b := by
    rcases Nat.lt_or_ge b t.locs.length with h1 | h1
    ·have := (ht.init b h1).up; omega
    ·exact h1
   have hp := (ht.good b hl hb).par (by omega)
   rw [← hp]
   by_cases c2 : (t.at b).up = a
   ·rw [c2, Int.toNat_natCast]
   ·rw [if_neg c2] at h
    exact ih (t.at b).up.toNat (by omega) (by omega) h
theorem Pl {t : A3} (ht : A8 t) {a b : Nat} (ha : 0 ≤ (t.at a).thread) (h : AD t a b = true) : (t.at a).thread = (t.at b).thread := by
 simp only [AD, Bool.and_eq_true, Int.toNat_natCast] at h
 obtain ⟨⟨h1, h2⟩, h3⟩ := h
 simp only [BY, Bool.and_eq_true, decide_eq_true_eq] at h1 h2
 rw [if_neg (by omega)] at h3
 exact A7p ht (b + 1) b (by omega) (by omega) h3
def G5 (t : A3) (u : Nat) : List Nat := if (t.at u).thread < 0 then [] else (List.range t.nodes.length).filter fun i => decide ((t.at i).up = u)
def EP (t : A3) (mem : List Int) (i : Nat) : Bool := !decide ((t.at i).kind = 2) || decide ((t.at i).val = mem.getD (t.at i).loc.toNat 0)
def UJ (t : A3) (i : Nat) : Nat := if (t.at i).kind = 2 ∧ Er t i = true then i + 1 else i
def G0 (t : A3) (mem : List Int) (i : Nat) : List Int := if (t.at i).kind = 3 then mem.set (t.at i).loc.toNat (t.at i).val else mem
def GK (t : A3) (u : Nat) (mem : List Int) : Option (Nat × List Int) := if (t.at u).fin = true then none else ((G5 t u).find? (EP t mem)).map fun i => (UJ t i, G0 t mem (UJ t i))
/-- What walked makes. -/
inductive Wlk (t : A3) (s : Ad) (n : Nat) (s' : Ad) : Prop
 | bar : (t.at n).kind = 4 → De t s n 4 (-1) = some s' → Wlk t s n s'
 | read (loc : Nat) : (t.at n).kind = 2 → (t.at n).loc = loc → S0 t s n (Df s loc) = some s' → Wlk t s n s'
 | write (loc : Nat) : (t.at n).kind = 3 → (t.at n).loc = loc → Hc t s n ((s.mo.getD loc []).length : Nat) = some s' → Wlk t s n s'
theorem A2F {t : A3} (ht : A8 t) {s : Ad} {mem : List Int} {k n : Nat} (W : WI t s mem k) (hn : n < t.nodes.length) (hno : (n : Int) ∉ s.has) (hup : (t.at n).up ∈ s.has) (fr : ∀ b : Nat, (b : Int) ∈ s.has → AD t n b = false)
  (hth : 0 ≤ (t.at n).thread) (hu : 0 ≤ (t.at n).up) (hv : (t.at n).kind = 2 → (t.at n).val = mem.getD (t.at n).loc.toNat 0) :
  ∃ s', Wlk t s n s' ∧ WI t s' (G0 t mem n) (k + 1) ∧ ∀ x, x ∈ s'.has ↔ x = (n : Int) ∨ x ∈ s.has := by
 rcases ht.kind hn hu with c | c | c
 ·have hl := ht.wloc hn (.inl c)
  obtain ⟨loc, e⟩ := Int.eq_ofNat_of_zero_le hl.1
  have hv := hv c
  rw [e] at hv
  obtain ⟨a, b⟩ := A7j ht W hn hno hup fr (loc := loc) c e hv
  refine ⟨_, .read loc c e a, ?_, fun x => Ch⟩
  rw [G0, if_neg (by omega)]; exact b
 ·have hl := ht.wloc hn (.inr c)
  obtain ⟨loc, e⟩ := Int.eq_ofNat_of_zero_le hl.1
  obtain ⟨s', a, b, d⟩ := A74 ht W hn hno hup fr (loc := loc) c hth e
  refine ⟨s', .write loc c e a, ?_, d⟩
  rw [G0, if_pos c, e]; exact b
 ·refine ⟨_, .bar c (NL ht W hn hno hup c), ?_, fun x => Ch⟩
  rw [G0, if_neg (by omega)]; exact Aar ht W hn hno hup fr c
theorem A8t {t : A3} (ht : A8 t) {s : Ad} {mem : List Int} {k : Nat} (W : WI t s mem k) {at_ : List Nat} (S : StI t s at_) {j u to : Nat} {out : List Int} (hj : j < at_.length) (hju : at_[j] = u) (h : GK t u mem = some (to, out)) :
  to < t.nodes.length ∧ ∃ s1 s2 k1 k2, (if (t.at to).up ≠ (u : Int) then (∃ m : Nat, (t.at to).up = m ∧ m < t.nodes.length ∧ Wlk t s m s1) else s1 = s) ∧ WI t s1 mem k1 ∧ Wlk t s1 to s2 ∧ WI t s2 out k2 ∧ k < k2 ∧ StI t s2 (at_.set j to) := by
 unfold GK at h
 split at h
 ·cases h
 ·obtain ⟨i, hi, e⟩ := Option.map_eq_some_iff.1 h
  simp only [Prod.mk.injEq] at e
  obtain ⟨rfl, rfl⟩ := e
  have hc := List.find?_some hi
  have hm := List.mem_of_find?_eq_some hi
  unfold G5 at hm
  split at hm
  ·cases hm
  ·rename_i hth
   simp only [List.mem_filter, List.mem_range, decide_eq_true_eq] at hm
   obtain ⟨hin, hiu⟩ := hm
   have huA : u ∈ at_ := hju ▸ List.getElem_mem hj
   obtain ⟨hus, hut⟩ := S.has u huA
   have hlt := ht.up i hin
   have lo : ∀ m, m < t.nodes.length → 0 ≤ (t.at m).up → t.locs.length ≤ m := fun m hm hu => by
    rcases Nat.lt_or_ge m t.locs.length with h1 | h1
    ·have := (ht.init m h1).up; omega
    ·exact h1
   have par : ∀ m, m < t.nodes.length → 0 ≤ (t.at m).up → (t.at m).thread = (t.at (t.at m).up.toNat).thread := fun m hm hu => ((ht.good m (lo m hm hu) hm).par hu).symm
   have thi : (t.at i).thread = (t.at u).thread := by rw [par i hin (by omega), hiu, Int.toNat_natCast]
   -- a node of this thread beyond u is new
   have newer : ∀ m : Nat, (t.at m).thread = (t.at u).thread → u < m → (m : Int) ∉ s.has := fun m e hm hc => by have := S.top u huA m hc e; omega
   have hv : (t.at i).kind = 2 → (t.at i).val = mem.getD (t.at i).loc.toNat 0 := fun c => by
    simp only [EP, c, decide_true, Bool.not_true, Bool.false_or, decide_eq_true_eq] at hc
    exact hc
   have fr1 : ∀ b : Nat, (b : Int) ∈ s.has → AD t i b = false := fun b hb => by
    rw [Bool.eq_false_iff]
    intro hbf
    have h1 := EV ht hbf
    have h2 := Pl ht (by omega) hbf
    exact newer b (by omega) (by omega) hb
   obtain ⟨s1, w1, W1, m1⟩ := A2F ht W hin (newer i thi (by omega)) (by rw [hiu]; exact hus) fr1 (by omega) (by omega) hv
   -- the last part: where the thread stands then
   have fin : ∀ {s2 : Ad} {v : Nat}, (∀ x, x ∈ s2.has → x ∈ s.has ∨ x = (i : Int) ∨ x = (v : Int)) → (∀ x, x ∈ s.has → x ∈ s2.has) → (v : Int) ∈ s2.has → i ≤ v → (t.at v).thread = (t.at u).thread → (v = i ∨ (v < t.nodes.length ∧ (t.at v).up = (i : Int))) → StI t s2 (at_.set j v) := by
    intro s2 v h1 h2 h3 h4 h5 h6
    have hbi : ∀ x : Nat, (x = u ∨ AE t x u = true) → AE t x i = true := fun x h => by
     rw [Ph ht.up hin hiu]
     rcases h with h | h
     ·rw [h, decide_eq_true rfl, Bool.true_or]
     ·rw [h, Bool.or_true]
    have hbv : ∀ x : Nat, AE t x i = true → x = v ∨ AE t x v = true := fun x h => by
     rcases h6 with h6 | ⟨h6, h7⟩
     ·rw [h6]; exact .inr h
     ·rw [Ph ht.up h6 h7, h, Bool.or_true]; exact .inr rfl
    refine ⟨fun x hx => ?_, fun x hx y hy e => ?_, ?_, fun x hx y hy e => ?_, fun x hx h0 => ?_⟩
    ·rcases List.mem_or_eq_of_mem_set hx with hx | rfl
     ·exact ⟨h2 _ (S.has x hx).1, (S.has x hx).2⟩
     ·exact ⟨h3, by omega⟩
    ·obtain ⟨p, hp, rfl⟩ := List.getElem_of_mem hx
     rw [List.length_set] at hp
     rw [List.getElem_set] at e ⊢
     by_cases c : j = p
     ·rw [if_pos c] at e ⊢
      rcases h1 _ hy with a | a | a
      ·have := S.top u huA y a (by omega); omega
      ·omega
      ·omega
     ·rw [if_neg c] at e ⊢
      have hd : (t.at at_[p]).thread ≠ (t.at u).thread := by
       have := List.pairwise_iff_getElem.1 S.pw
       rw [← hju]
       rcases Nat.lt_or_ge j p with q | q
       ·exact fun e => this j p hj hp q e.symm
       ·exact fun e => this p j hp hj (by omega) e
      rcases h1 _ hy with a | a | a
      ·exact S.top _ (List.getElem_mem hp) y a e
      ·have : y = i := by omega
       subst this; rw [thi] at e; exact absurd e.symm hd
      ·have : y = v := by omega
       subst this; rw [h5] at e; exact absurd e.symm hd
    ·rw [List.pairwise_iff_getElem]
     intro a b ha hb hab
     rw [List.length_set] at ha hb
     have key := List.pairwise_iff_getElem.1 S.pw a b ha hb hab
     rw [List.getElem_set, List.getElem_set]
     by_cases c1 : j = a
     ·subst c1
      rw [if_pos rfl, if_neg (by omega), h5, ← hju]; exact key
     ·rw [if_neg c1]
      by_cases c2 : j = b
      ·subst c2
       rw [if_pos rfl, h5, ← hju]; exact key
      ·rw [if_neg c2]; exact key
    ·obtain ⟨p, hp, rfl⟩ := List.getElem_of_mem hx
     rw [List.length_set] at hp
     rw [List.getElem_set] at e ⊢
     by_cases c : j = p
     ·rw [if_pos c] at e ⊢
      rcases h1 _ hy with a | a | a
      ·exact hbv y (hbi y (S.chain u huA y a (by omega)))
      ·have : y = i := by omega
       subst this
       rcases h6 with h6 | ⟨h6, h7⟩
       ·exact .inl h6.symm
       ·rw [Ph ht.up h6 h7, decide_eq_true rfl, Bool.true_or]; exact .inr rfl
      ·exact .inl (by omega)
     ·rw [if_neg c] at e ⊢
      have hd : (t.at at_[p]).thread ≠ (t.at u).thread := by
       have := List.pairwise_iff_getElem.1 S.pw
       rw [← hju]
       rcases Nat.lt_or_ge j p with q | q
       ·exact fun e => this j p hj hp q e.symm
       ·exact fun e => this p j hp hj (by omega) e
      rcases h1 _ hy with a | a | a
      ·exact S.chain _ (List.getElem_mem hp) y a e
      ·have : y = i := by omega
       subst this; rw [thi] at e; exact absurd e.symm hd
      ·have : y = v := by omega
       subst this; rw [h5] at e; exact absurd e.symm hd
    ·have hvm : v ∈ at_.set j v := List.mem_set hj v
     rcases h1 _ hx with a | a | a
     ·obtain ⟨w, hw, hwt⟩ := S.cov x a h0
      obtain ⟨p, hp, rfl⟩ := List.getElem_of_mem hw
      by_cases c : j = p
      ·subst c
       rw [hju] at hwt
       exact ⟨v, hvm, by rw [h5]; exact hwt⟩
      ·refine ⟨_, List.getElem_mem (show p < (at_.set j v).length by rw [List.length_set]; exact hp), ?_⟩
       rw [List.getElem_set, if_neg c]; exact hwt
     ·have : x = i := by omega
      subst this
      exact ⟨v, hvm, by rw [h5, thi]⟩
     ·have : x = v := by omega
      subst this
      exact ⟨x, hvm, rfl⟩
   by_cases cr : (t.at i).kind = 2 ∧ Er t i = true
   ·have e : UJ t i = i + 1 := by rw [UJ, if_pos cr]
    rw [e]
    have hr := cr.2
    simp only [Er, Bool.and_eq_true, decide_eq_true_eq] at hr
    obtain ⟨⟨r1, r2⟩, r3⟩ := hr
    have th2 : (t.at (i + 1)).thread = (t.at u).thread := by rw [par (i + 1) r1 (by omega), r2, Int.toNat_natCast, thi]
    have k3 := ht.rmw3 r1 (by omega) r3
    have hno2 : ((i + 1 : Nat) : Int) ∉ s1.has := fun hx => by
     rcases (m1 _).1 hx with a | a
     ·omega
     ·exact newer (i + 1) th2 (by omega) a
    have fr2 : ∀ b : Nat, (b : Int) ∈ s1.has → AD t (i + 1 : Nat) b = false := fun b hb => by
     rw [Bool.eq_false_iff]
     intro hbf
     have h1 := EV ht hbf
     have h2 := Pl ht (by omega) hbf
     rcases (m1 _).1 hb with a | a
     ·omega
     ·exact newer b (by omega) (by omega) a
    obtain ⟨s2, w2, W2, m2⟩ := A2F ht W1 r1 hno2 (by rw [r2]; exact (m1 _).2 (.inl rfl)) fr2 (by omega) (by omega) (fun c => by omega)
    have oe : G0 t mem i = mem := by rw [G0, if_neg (by omega)]
    rw [oe] at W2
    rw [oe] at W1
    refine ⟨r1, s1, s2, k + 1, k + 1 + 1, ?_, W1, w2, W2, by omega, fin (fun x hx => ?_) (fun x hx => (m2 _).2 (.inr ((m1 _).2 (.inr hx)))) ((m2 _).2 (.inl rfl)) (by omega) th2 (.inr ⟨r1, r2⟩)⟩
    ·rw [if_pos (by rw [r2]; omega)]; exact ⟨i, r2, hin, w1⟩
    ·rcases (m2 _).1 hx with a | a
     ·exact .inr (.inr a)
     ·rcases (m1 _).1 a with a | a
      ·exact .inr (.inl a)
      ·exact .inl a
   ·have e : UJ t i = i := by rw [UJ, if_neg cr]
    rw [e]
    refine ⟨hin, s, s1, k, k + 1, by rw [if_neg (by rw [hiu]; simp)], W, w1, W1, by omega, fin (fun x hx => ?_) (fun x hx => (m1 _).2 (.inr hx)) ((m1 _).2 (.inl rfl)) (Nat.le_refl _) thi (.inl rfl)⟩
    rcases (m1 _).1 hx with a | a
    ·exact .inr (.inl a)
    ·exact .inl a
end Go.AM

namespace Go.AM
open Go Go.Proofs
def nI (l : List Nat) : List Int := l.map fun (n : Nat) => (n : Int)
theorem By (l : List Nat) : (nI l).length = l.length := by simp [nI]
theorem TV (l : List Nat) (x : Nat) : nI l ++ [(x : Int)] = nI (l ++ [x]) := by simp [nI]
theorem Aan (l : List Nat) (j x : Nat) : (nI l).set j (x : Int) = nI (l.set j x) := by simp [nI]
theorem Abb {l : List Nat} {j : Nat} (h : j < l.length) : (nI l).getD j 0 = (l[j] : Nat) := by simp [nI, h]
def P6 (t : A3) (u : Nat) (k : Nat) : List Nat := (List.range k).filter fun i => decide ((t.at i).up = u)
theorem AaP {t : A3} {u k : Nat} (h : decide ((t.at k).up = (u : Int)) = true) : P6 t u (k + 1) = P6 t u k ++ [k] := by
 rw [P6, List.range_succ, List.filter_append]; simp [h, P6, of_decide_eq_true h]
theorem AbY {t : A3} {u k : Nat} (h : decide ((t.at k).up = (u : Int)) = false) : P6 t u (k + 1) = P6 t u k := by
 rw [P6, List.range_succ, List.filter_append]; simp [h, P6, of_decide_eq_false h]
theorem A4S (t : A3) (u k : Nat) : (P6 t u k).length ≤ k := by
 refine Nat.le_trans (List.length_filter_le _ _) ?_; simp
theorem A55 {h : VH} {ty e b : Nat} {x y y' : VV} (k : Jm h e y = Jm h e y') : GV h ty e b x y = GV h ty e b x y' := by unfold GV; rw [k]
theorem A5c {h : VH} {ty e j : Nat} {ys : List (List VV)} (k : h[j]? = some (some (AL ty e ys))) (ho : CX e ys = true) : Jm h e (.sl j ys.length 0 ys.length) = Jm h e (.ls ys) := by
 simp only [Jm, BT, k, DD, Nat.beq_refl, cond_true, A2V, Nat.zero_add, Nat.ble_eq, Nat.le_refl, List.drop_zero, List.take_length, ho]
 have := @A5x ty e ys
 cases hb : (Nat.beq (AL ty e ys).esz e || (AL ty e ys).nl) with
 | true =>
  have : Nat.ble ys.length ys.length = true := by simp
  simp [this]
 | false =>
  exfalso
  simp only [Bool.or_eq_false_iff] at hb
  simp only [Bool.or_eq_true, decide_eq_true_eq] at this
  rcases this with h | h
  ·rw [h, Nat.beq_refl] at hb; cases hb.1
  ·rw [h] at hb; cases hb.2
section
variable {V : Al} (C : AB V) {Q : VV → Prop}
include C
set_option maxHeartbeats 4000000 in
theorem Lp (t : A3) (ht : A8 t) (u : Nat) (hu : u < t.nodes.length) (hth : 0 ≤ (t.at u).thread) : VP V SE [vT t, .i .i64 u] Q ↔ Q (lI (nI (G5 t u))) := by
 refine Aa ?_
 rw [A9 C.c_z105.1 C.c_z105.2]
 have h64 := ht.n64
 have hke : G5 t u = P6 t u t.nodes.length := by rw [G5, if_neg (by omega)]; rfl
 rw [hke]
 have c0 : decide ((u : Int) < 0) = false := decide_eq_false (by omega)
 have c1 : decide ((t.nodes.length : Int) ≤ u) = false := decide_eq_false (by omega)
 have c1' : decide (t.nodes.length ≤ u) = false := decide_eq_false (by omega)
 have c2 : decide ((t.at u).thread < 0) = false := decide_eq_false (by omega)
 simp only [YB, GU, go_sem, ↓reduceIte, c0, c1, c1', hu, A5 hu, c2]
 refine Ak (by decide) t.nodes.length (by omega) (I := fun k F h => A1.tmp F 1 = .i .i64 u ∧ A1.tmp F 2 = .fp (eT t) 0 ∧ ∃ L, L = nI (P6 t u k) ∧ A1.tmp F 5 = .sl 0 L.length 0 L.length ∧ h = [some (AL Bj 1 (L.map eI))]) ?_ ?_ ?_ 0 _ _ (Nat.zero_le _) ?_ ?_
 ·rintro k F h hk p6 ⟨p1, p2, L, hL, p5, rfl⟩
  simp only [GU, go_sem, ↓reduceIte, p1, p2, p5, p6]
  exact ⟨L, hL, rfl, rfl⟩
 ·rintro k F h hk p6 ⟨p1, p2, L, hL, p5, rfl⟩
  have hlen := A4S t u k
  have b1 : (L.length + 1) * 8 ≤ A6 := by rw [hL, By]; unfold A6; omega
  cases c3 : decide ((t.at k).up = (u : Int)) with
  | false =>
   simp only [GU, go_sem, ↓reduceIte, p1, p2, p5, p6, hk, A5 hk, c3, A0]
   exact ⟨L, by rw [AbY c3]; exact hL, rfl, rfl⟩
  | true =>
   simp only [GU, go_sem, ↓reduceIte, p1, p2, p5, p6, hk, A5 hk, c3, A0, b1, Qj, List.length_append, List.length_map]
   exact ⟨L ++ [(k : Int)], by rw [AaP c3, hL, TV], by simp, rfl⟩
 ·rintro F h ⟨p1, p2, L, hL, p5, rfl⟩
  subst hL
  simp only [GU, go_sem, ↓reduceIte, p1, p2, p5, List.length_map]
 ·simp only [GU, go_sem, ↓reduceIte]
 ·simp only [GU, go_sem, ↓reduceIte]
  exact ⟨[], rfl, rfl, rfl⟩
set_option maxHeartbeats 4000000 in
theorem GQ (t : A3) (ht : A8 t) (u : Nat) (hu : u < t.nodes.length) : VP V Up [vT t, .i .i64 u] Q ↔ Q (.b (Er t u)) := by
 refine Aa ?_
 rw [A9 C.c_z106.1 C.c_z106.2]
 have h64 := ht.n64
 have w1 : IntKind.i64.wrap ((u : Int) + 1) = ((u + 1 : Nat) : Int) := by rw [AS (by omega) (by omega)]; omega
 unfold Er
 by_cases c1 : u + 1 < t.nodes.length
 ·have c1' : decide (((u + 1 : Nat) : Int) < (t.nodes.length : Int)) = true := decide_eq_true (by omega)
  cases c2 : decide ((t.at (u + 1)).up = (u : Int)) with
  | false => simp only [Qa, MK, go_sem, ↓reduceIte, w1, c1, c1', A5 c1, c2]
  | true =>
   have c2' := of_decide_eq_true c2
   simp only [Qa, MK, go_sem, ↓reduceIte, w1, c1, c1', A5 c1, c2]
 ·have c1' : decide (((u + 1 : Nat) : Int) < (t.nodes.length : Int)) = false := decide_eq_false (by omega)
  simp only [Qa, MK, go_sem, ↓reduceIte, w1, c1, c1']
end
end Go.AM

namespace Go.AM
open Go Go.Proofs
section
variable {V : Al} (C : AB V) {Q : VV → Prop}
include C
set_option maxHeartbeats 8000000 in
theorem QO (t : A3) (ht : A8 t) (s : Ad) (hs : N7 s) (hz : s.has.length < 1000 ∧ s.jf.length < 1000 ∧ ∀ l ∈ s.mo, ∀ c ∈ l, c.length < 1000) {n : Nat} (hn : n < t.nodes.length) {s' : Ad} (hw : Wlk t s n s') (hml : s.mo.length = t.locs.length)
  (hne : ∀ loc, loc < s.mo.length → 0 < (s.mo.getD loc []).length) (h1 : ∀ loc, loc < s.mo.length → ∀ c ∈ s.mo.getD loc [], ∃ w : Int, c = [w]) : VP V A0Z [vT t, ML s, .i .i64 n] Q ↔ Q (ML s') := by
 refine Aa ?_
 rw [A9 C.c_z62.1 C.c_z62.2]
 cases hw with
 | bar hk e =>
  have hb := fun (Q : VV → Prop) => VK C t ht s hs n (Q := Q)
  rw [e, MA] at hb
  simp only [Wi, RQ, go_sem, ↓reduceIte, hn, A5 hn, hk, hb, A0]
 | read loc hk hloc e =>
  have hl := ht.wloc hn (.inl hk)
  have hll : loc < s.mo.length := by omega
  have gL := CG hll
  have hm := hs.mi' loc
  have hp := hne loc hll
  obtain ⟨w, hw⟩ := h1 loc hll _ (Aq (d := []) (show (s.mo.getD loc []).length - 1 < (s.mo.getD loc []).length by omega))
  have hla : Df s loc = w := by rw [Df, hw]; rfl
  have gI := GN (xs := s.mo.getD loc []) (show (s.mo.getD loc []).length - 1 < (s.mo.getD loc []).length by omega)
  rw [hw] at gI
  rw [hla] at e
  obtain ⟨L, hL⟩ : ∃ L, L = s.mo.getD loc [] := ⟨_, rfl⟩
  rw [← hL] at gL gI hm hp
  have w1 : IntKind.i64.wrap ((L.length : Int) - 1) = ((L.length - 1 : Nat) : Int) := by rw [AS (by omega) (by omega)]; omega
  have hlt : L.length - 1 < L.length := by omega
  have hr := fun (Q : VV → Prop) => Ta C t ht s hs ⟨hz.1, hz.2.1⟩ n w (Q := Q)
  rw [e, MA] at hr
  simp only [Wi, RQ, go_sem, ↓reduceIte, hn, A5 hn, hk, hloc, hll, gL, gI, w1, hlt, hr, A0]
 | write loc hk hloc e =>
  have hl := ht.wloc hn (.inr hk)
  have hll : loc < s.mo.length := by omega
  have gL := CG hll
  have hm := hs.mi' loc
  obtain ⟨L, hL⟩ : ∃ L, L = s.mo.getD loc [] := ⟨_, rfl⟩
  rw [← hL] at gL hm e
  have hr := fun (Q : VV → Prop) => QR C t ht s hs n (L.length : Nat) (Q := Q)
  rw [e, MA] at hr
  simp only [Wi, RQ, go_sem, ↓reduceIte, hn, A5 hn, hk, hloc, hll, gL, hr, A0]
end
end Go.AM

namespace Go.AM
open Go Go.Proofs
def Lg : Option (Nat × List Int) → VV
 | none => .tu [.i .i64 0, .ls [], .b false]
 | some (to, out) => .tu [.i .i64 (to : Nat), lI out, .b true]
theorem A6I (l : List Int) (k : Nat) (v : Int) : (l.map eI).set k [.i .i64 v] = (l.set k v).map eI := by rw [List.map_set]
theorem A0t {l : List Nat} {p : Nat → Bool} {k : Nat} (hk : k < l.length) (h : ∀ j, j < k → ∀ hj : j < l.length, p l[j] = false) (hp : p l[k] = true) : l.find? p = some l[k] := by
 rw [List.find?_eq_some_iff_getElem]
 exact ⟨hp, k, hk, rfl, fun j hj => by rw [h j hj (by omega)]; rfl⟩
theorem A0O {l : List Nat} {p : Nat → Bool} (h : ∀ j, j < l.length → ∀ hj : j < l.length, p l[j] = false) : l.find? p = none := by
 rw [List.find?_eq_none]
 intro x hx
 obtain ⟨j, hj, rfl⟩ := List.getElem_of_mem hx
 rw [h j hj hj]; decide
section
variable {V : Al} (C : AB V) {Q : VV → VH → Prop}
include C
set_option maxHeartbeats 16000000 in
theorem T0 (t : A3) (ht : A8 t) {u : Nat} (hu : u < t.nodes.length) (hth : 0 ≤ (t.at u).thread) (mem : List Int) (hm : mem.length = t.locs.length) (x0 x1 x2 x3 x4 x5 : Option VO) :
  GF V LB [vT t, .i .i64 u, lI mem] [x0, x1, x2, x3, x4, x5] Q ↔ Q (Lg (GK t u mem)) [x0, x1, x2, x3, x4, x5] := by
 refine Gh ?_
 rw [Ct C.h_z61]
 have h64 := ht.n64
 have l4 := ht.l4
 unfold GK
 cases cf : (t.at u).fin with
 | true =>
  simp only [Nr, BQ, go_sem, ↓reduceIte, hu, A5 hu, cf]
  rfl
 | false =>
 simp only [Nr, BQ, go_sem, ↓reduceIte, hu, A5 hu, cf, Lp C t ht u hu hth]
 have hKm : ∀ i ∈ G5 t u, i < t.nodes.length ∧ (t.at i).up = (u : Int) := by
  intro i hi
  unfold G5 at hi
  rw [if_neg (by omega)] at hi
  simpa only [List.mem_filter, List.mem_range, decide_eq_true_eq] using hi
 have hKl : (G5 t u).length ≤ 64 := by
  unfold G5
  rw [if_neg (by omega)]
  refine Nat.le_trans (List.length_filter_le _ _) ?_
  simpa using h64
 obtain ⟨K, hK⟩ : ∃ K, K = G5 t u := ⟨_, rfl⟩
 rw [← hK] at hKm hKl ⊢
 refine Ak (by decide) K.length (by omega) (I := fun k F h => (∀ j, j < k → ∀ hj : j < K.length, EP t mem K[j] = false) ∧ A1.tmp F 2 = lI mem ∧ A1.tmp F 3 = .fp (eT t) 0 ∧ A1.tmp F 9 = lI (nI K) ∧ h = [x0, x1, x2, x3, x4, x5]) ?_ ?_ ?_ 0 _ _ (Nat.zero_le _) ?_ ?_
 ·rintro k F h hk p10 ⟨hj, p2, p3, p9, rfl⟩
  simp only [BQ, go_sem, ↓reduceIte, p2, p3, p9, p10, By]
  exact hj
 ·rintro k F h hk p10 ⟨hj, p2, p3, p9, rfl⟩
  obtain ⟨hin, hiu⟩ := hKm K[k] (List.getElem_mem hk)
  have gK : (nI K)[k]? = some ((K[k] : Nat) : Int) := by simp [nI, hk]
  have hnext : EP t mem K[k] = false → ∀ j, j < k + 1 → ∀ hj : j < K.length, EP t mem K[j] = false := fun hc j h1 h2 => by
   by_cases c : j = k
   ·subst c; exact hc
   ·exact hj j (by omega) h2
  have hfind : EP t mem K[k] = true → K.find? (EP t mem) = some K[k] := fun hc => A0t hk hj hc
  have hb8 : mem.length * 8 ≤ A6 := by unfold A6; omega
  have htk : ∀ n v, List.take mem.length (mem.set n v) = mem.set n v := fun n v => List.take_of_length_le (by rw [List.length_set]; exact Nat.le_refl _)
  generalize K[k] = i at hin hiu gK hnext hfind
  -- what comes of going to v
  cases c2 : decide ((t.at i).kind = 2) with
  | true =>
   have c2' := of_decide_eq_true c2
   have hl := ht.wloc hin (.inl c2')
   obtain ⟨loc, hloc⟩ := Int.eq_ofNat_of_zero_le hl.1
   have hll : loc < mem.length := by omega
   have gm := Au hll
   cases cv : decide ((t.at i).val = mem.getD loc 0) with
   | false =>
    have hc : EP t mem i = false := by simp only [EP, c2, hloc, Int.toNat_natCast, cv]; rfl
    simp only [BQ, go_sem, ↓reduceIte, p2, p3, p9, p10, hk, By, gK, hin, A5 hin, c2, hloc, hll, gm, cv, A0]
    exact hnext hc
   | true =>
    have hc : EP t mem i = true := by simp only [EP, cv, hloc, Int.toNat_natCast, Bool.or_true]
    have hfd := hfind hc
    cases cr : Er t i with
    | false =>
     have hto : UJ t i = i := by rw [UJ, if_neg (by rw [cr]; simp)]
     have ho : G0 t mem i = mem := by rw [G0, if_neg (by omega)]
     have c3 : decide ((t.at i).kind = 3) = false := decide_eq_false (by omega)
     simp only [BQ, go_sem, ↓reduceIte, p2, p3, p9, p10, hk, By, gK, hin, A5 hin, c2, hloc, hll, gm, cv, GQ C t ht i hin, cr, c3, A0, hb8]
     simp only [hfd, Option.map_some, hto, ho, Lg]
     all_goals trivial
    | true =>
     have hr := cr
     simp only [Er, Bool.and_eq_true, decide_eq_true_eq] at hr
     obtain ⟨⟨r1, r2⟩, r3⟩ := hr
     have k3 := ht.rmw3 r1 (by omega) r3
     have c3 : decide ((t.at (i + 1)).kind = 3) = true := decide_eq_true k3
     have hl2 := ht.wloc r1 (.inr k3)
     obtain ⟨loc2, hloc2⟩ := Int.eq_ofNat_of_zero_le hl2.1
     have hll2 : loc2 < mem.length := by omega
     have gm2 := Au hll2
     have hto : UJ t i = i + 1 := by rw [UJ, if_pos ⟨c2', cr⟩]
     have ho : G0 t mem (i + 1) = mem.set loc2 (t.at (i + 1)).val := by rw [G0, if_pos k3, hloc2, Int.toNat_natCast]
     have w1 : IntKind.i64.wrap ((i : Int) + 1) = ((i + 1 : Nat) : Int) := by rw [AS (by omega) (by omega)]; omega
     simp only [BQ, go_sem, ↓reduceIte, p2, p3, p9, p10, hk, By, gK, hin, A5 hin, c2, hloc, hll, gm, cv, GQ C t ht i hin, cr, w1, r1, A5 r1, c3, hloc2, hll2, gm2, A0, hb8, A6I, List.length_map, List.length_set, htk]
     simp only [hfd, Option.map_some, hto, ho, Lg]
     all_goals trivial
  | false =>
   have c2' := of_decide_eq_false c2
   have hc : EP t mem i = true := by simp only [EP, c2]; rfl
   have hfd := hfind hc
   have hto : UJ t i = i := by rw [UJ, if_neg (fun h => c2' h.1)]
   cases c3 : decide ((t.at i).kind = 3) with
   | false =>
    have ho : G0 t mem i = mem := by rw [G0, if_neg (of_decide_eq_false c3)]
    simp only [BQ, go_sem, ↓reduceIte, p2, p3, p9, p10, hk, By, gK, hin, A5 hin, c2, c3, A0, hb8]
    simp only [hfd, Option.map_some, hto, ho, Lg]
    all_goals trivial
   | true =>
    have k3 := of_decide_eq_true c3
    have hl2 := ht.wloc hin (.inr k3)
    obtain ⟨loc2, hloc2⟩ := Int.eq_ofNat_of_zero_le hl2.1
    have hll2 : loc2 < mem.length := by omega
    have gm2 := Au hll2
    have ho : G0 t mem i = mem.set loc2 (t.at i).val := by rw [G0, if_pos k3, hloc2, Int.toNat_natCast]
    simp only [BQ, go_sem, ↓reduceIte, p2, p3, p9, p10, hk, By, gK, hin, A5 hin, c2, c3, hloc2, hll2, gm2, A0, hb8, A6I, List.length_map, List.length_set, htk]
    simp only [hfd, Option.map_some, hto, ho, Lg]
    all_goals trivial
 ·rintro F h ⟨hj, p2, p3, p9, rfl⟩
  have hno := A0O hj
  simp only [BQ, go_sem, ↓reduceIte, p2, p3, p9]
  rw [hno]
  rfl
 ·simp only [BQ, go_sem, ↓reduceIte]
 ·simp only [BQ, go_sem, ↓reduceIte]
  exact fun j hj => absurd hj (Nat.not_lt_zero _)
set_option maxHeartbeats 16000000 in
theorem Tr (t : A3) (ht : A8 t) {u : Nat} (hu : u < t.nodes.length) (hth : 0 ≤ (t.at u).thread) (mem : List Int) (hm : mem.length = t.locs.length) (x0 x1 x2 x4 x5 : Option VO) :
  GF V LB [vT t, .i .i64 u, .sl 3 mem.length 0 mem.length] [x0, x1, x2, some (AL Bj 1 (mem.map eI)), x4, x5] Q ↔ Q (Lg (GK t u mem)) [x0, x1, x2, some (AL Bj 1 (mem.map eI)), x4, x5] := by
 refine Gh ?_
 rw [Ct C.h_z61]
 have h64 := ht.n64
 have l4 := ht.l4
 unfold GK
 cases cf : (t.at u).fin with
 | true =>
  simp only [Nr, BQ, go_sem, ↓reduceIte, hu, A5 hu, cf]
  rfl
 | false =>
 simp only [Nr, BQ, go_sem, ↓reduceIte, hu, A5 hu, cf, Lp C t ht u hu hth]
 have hKm : ∀ i ∈ G5 t u, i < t.nodes.length ∧ (t.at i).up = (u : Int) := by
  intro i hi
  unfold G5 at hi
  rw [if_neg (by omega)] at hi
  simpa only [List.mem_filter, List.mem_range, decide_eq_true_eq] using hi
 have hKl : (G5 t u).length ≤ 64 := by
  unfold G5
  rw [if_neg (by omega)]
  refine Nat.le_trans (List.length_filter_le _ _) ?_
  simpa using h64
 obtain ⟨K, hK⟩ : ∃ K, K = G5 t u := ⟨_, rfl⟩
 rw [← hK] at hKm hKl ⊢
 refine Ak (by decide) K.length (by omega) (I := fun k F h => (∀ j, j < k → ∀ hj : j < K.length, EP t mem K[j] = false) ∧ A1.tmp F 2 = .sl 3 mem.length 0 mem.length ∧ A1.tmp F 3 = .fp (eT t) 0 ∧ A1.tmp F 9 = lI (nI K) ∧ h = [x0, x1, x2, some (AL Bj 1 (mem.map eI)), x4, x5]) ?_ ?_ ?_ 0 _ _ (Nat.zero_le _) ?_ ?_
 ·rintro k F h hk p10 ⟨hj, p2, p3, p9, rfl⟩
  simp only [BQ, go_sem, ↓reduceIte, p2, p3, p9, p10, By]
  exact hj
 ·rintro k F h hk p10 ⟨hj, p2, p3, p9, rfl⟩
  obtain ⟨hin, hiu⟩ := hKm K[k] (List.getElem_mem hk)
  have gK : (nI K)[k]? = some ((K[k] : Nat) : Int) := by simp [nI, hk]
  have hnext : EP t mem K[k] = false → ∀ j, j < k + 1 → ∀ hj : j < K.length, EP t mem K[j] = false := fun hc j h1 h2 => by
   by_cases c : j = k
   ·subst c; exact hc
   ·exact hj j (by omega) h2
  have hfind : EP t mem K[k] = true → K.find? (EP t mem) = some K[k] := fun hc => A0t hk hj hc
  have hsrc : ∀ (h : VH) (x : VV) (b : Nat), h[3]? = some (some (AL Bj 1 (mem.map eI))) → GV h Bj 1 b x (.sl 3 mem.length 0 mem.length) = GV h Bj 1 b x (.ls (mem.map eI)) := fun h x b hh => by
   have := A5c (h := h) hh (Zo (fun _ => rfl))
   rw [List.length_map] at this
   exact A55 this
  have hb8 : mem.length * 8 ≤ A6 := by unfold A6; omega
  have htk : ∀ n v, List.take mem.length (mem.set n v) = mem.set n v := fun n v => List.take_of_length_le (by rw [List.length_set]; exact Nat.le_refl _)
  generalize K[k] = i at hin hiu gK hnext hfind
  -- what comes of going to v
  cases c2 : decide ((t.at i).kind = 2) with
  | true =>
   have c2' := of_decide_eq_true c2
   have hl := ht.wloc hin (.inl c2')
   obtain ⟨loc, hloc⟩ := Int.eq_ofNat_of_zero_le hl.1
   have hll : loc < mem.length := by omega
   have gm := Au hll
   have hix := HJ (ty := Bj) (e := 1) (rows := mem.map eI) (by rw [List.length_map]; omega)
   cases cv : decide ((t.at i).val = mem.getD loc 0) with
   | false =>
    have hc : EP t mem i = false := by simp only [EP, c2, hloc, Int.toNat_natCast, cv]; rfl
    simp only [BQ, go_sem, ↓reduceIte, p2, p3, p9, p10, hk, By, gK, hin, A5 hin, c2, hloc, hll, gm, hix, hsrc, cv, A0]
    exact hnext hc
   | true =>
    have hc : EP t mem i = true := by simp only [EP, cv, hloc, Int.toNat_natCast, Bool.or_true]
    have hfd := hfind hc
    cases cr : Er t i with
    | false =>
     have hto : UJ t i = i := by rw [UJ, if_neg (by rw [cr]; simp)]
     have ho : G0 t mem i = mem := by rw [G0, if_neg (by omega)]
     have c3 : decide ((t.at i).kind = 3) = false := decide_eq_false (by omega)
     simp only [BQ, go_sem, ↓reduceIte, p2, p3, p9, p10, hk, By, gK, hin, A5 hin, c2, hloc, hll, gm, hix, hsrc, cv, GQ C t ht i hin, cr, c3, A0, hb8]
     simp only [hfd, Option.map_some, hto, ho, Lg]
     all_goals trivial
    | true =>
     have hr := cr
     simp only [Er, Bool.and_eq_true, decide_eq_true_eq] at hr
     obtain ⟨⟨r1, r2⟩, r3⟩ := hr
     have k3 := ht.rmw3 r1 (by omega) r3
     have c3 : decide ((t.at (i + 1)).kind = 3) = true := decide_eq_true k3
     have hl2 := ht.wloc r1 (.inr k3)
     obtain ⟨loc2, hloc2⟩ := Int.eq_ofNat_of_zero_le hl2.1
     have hll2 : loc2 < mem.length := by omega
     have gm2 := Au hll2
     have hto : UJ t i = i + 1 := by rw [UJ, if_pos ⟨c2', cr⟩]
     have ho : G0 t mem (i + 1) = mem.set loc2 (t.at (i + 1)).val := by rw [G0, if_pos k3, hloc2, Int.toNat_natCast]
     have w1 : IntKind.i64.wrap ((i : Int) + 1) = ((i + 1 : Nat) : Int) := by rw [AS (by omega) (by omega)]; omega
     simp only [BQ, go_sem, ↓reduceIte, p2, p3, p9, p10, hk, By, gK, hin, A5 hin, c2, hloc, hll, gm, hix, hsrc, cv, GQ C t ht i hin, cr, w1, r1, A5 r1, c3, hloc2, hll2, gm2, A0, hb8, A6I, List.length_map, List.length_set, htk]
     simp only [hfd, Option.map_some, hto, ho, Lg]
     all_goals trivial
  | false =>
   have c2' := of_decide_eq_false c2
   have hc : EP t mem i = true := by simp only [EP, c2]; rfl
   have hfd := hfind hc
   have hto : UJ t i = i := by rw [UJ, if_neg (fun h => c2' h.1)]
   cases c3 : decide ((t.at i).kind = 3) with
   | false =>
    have ho : G0 t mem i = mem := by rw [G0, if_neg (of_decide_eq_false c3)]
    simp only [BQ, go_sem, ↓reduceIte, p2, p3, p9, p10, hk, By, gK, hin, A5 hin, c2, hsrc, c3, A0, hb8]
    simp only [hfd, Option.map_some, hto, ho, Lg]
    all_goals trivial
   | true =>
    have k3 := of_decide_eq_true c3
    have hl2 := ht.wloc hin (.inr k3)
    obtain ⟨loc2, hloc2⟩ := Int.eq_ofNat_of_zero_le hl2.1
    have hll2 : loc2 < mem.length := by omega
    have gm2 := Au hll2
    have ho : G0 t mem i = mem.set loc2 (t.at i).val := by rw [G0, if_pos k3, hloc2, Int.toNat_natCast]
    simp only [BQ, go_sem, ↓reduceIte, p2, p3, p9, p10, hk, By, gK, hin, A5 hin, c2, hsrc, c3, hloc2, hll2, gm2, A0, hb8, A6I, List.length_map, List.length_set, htk]
    simp only [hfd, Option.map_some, hto, ho, Lg]
    all_goals trivial
 ·rintro F h ⟨hj, p2, p3, p9, rfl⟩
  have hno := A0O hj
  simp only [BQ, go_sem, ↓reduceIte, p2, p3, p9]
  rw [hno]
  rfl
 ·simp only [BQ, go_sem, ↓reduceIte]
 ·simp only [BQ, go_sem, ↓reduceIte]
  exact fun j hj => absurd hj (Nat.not_lt_zero _)
end
end Go.AM

namespace Go.AM
open Go Go.Proofs
theorem AeW {t : A3} {k : Nat} (h1 : decide ((t.at k).thread < 0) = false) (h2 : decide ((t.at k).up < 0) = true) : RC t (k + 1) = RC t k ++ [k] := by
 rw [RC, List.range_succ, List.filter_append]; simp [h1, h2, RC, of_decide_eq_false h1, of_decide_eq_true h2]
theorem A9E {t : A3} {k : Nat} (h1 : decide ((t.at k).thread < 0) = true) : RC t (k + 1) = RC t k := by
 rw [RC, List.range_succ, List.filter_append]; simp [h1, RC, of_decide_eq_true h1]
theorem A9W {t : A3} {k : Nat} (h2 : decide ((t.at k).up < 0) = false) : RC t (k + 1) = RC t k := by
 rw [RC, List.range_succ, List.filter_append]; simp [h2, RC, of_decide_eq_false h2]
theorem AbL {t : A3} {k : Nat} (h1 : decide ((t.at k).thread < 0) = true) : La t (k + 1) = La t k ++ [(t.at k).val] := by
 rw [La, List.range_succ, List.filter_append]; simp [h1, La, of_decide_eq_true h1]
theorem A6u {t : A3} {k : Nat} (h1 : decide ((t.at k).thread < 0) = false) : La t (k + 1) = La t k := by
 rw [La, List.range_succ, List.filter_append]; simp [h1, La, of_decide_eq_false h1]
theorem A7K (t : A3) (k : Nat) : (RC t k).length ≤ k := by
 refine Nat.le_trans (List.length_filter_le _ _) ?_; simp
theorem A4P (t : A3) (k : Nat) : (La t k).length ≤ k := by
 rw [La, List.length_map]; refine Nat.le_trans (List.length_filter_le _ _) ?_; simp
def KZ (t : A3) (at_ : List Nat) (mem : List Int) (j : Nat) : List Nat := (List.range j).filter fun i => (GK t (at_.getD i 0) mem).isSome
theorem Aa0 {t : A3} {at_ : List Nat} {mem : List Int} {j : Nat} {x : Nat × List Int} (h : GK t (at_.getD j 0) mem = some x) : KZ t at_ mem (j + 1) = KZ t at_ mem j ++ [j] := by
 rw [KZ, List.range_succ, List.filter_append, List.filter_cons_of_pos (by rw [h]; rfl)]; rfl
theorem Abr {t : A3} {at_ : List Nat} {mem : List Int} {j : Nat} (h : GK t (at_.getD j 0) mem = none) : KZ t at_ mem (j + 1) = KZ t at_ mem j := by
 rw [KZ, List.range_succ, List.filter_append, List.filter_cons_of_neg (by rw [h]; decide)]; simp [KZ]
theorem A5o (t : A3) (at_ : List Nat) (mem : List Int) (k : Nat) : (KZ t at_ mem k).length ≤ k := by
 refine Nat.le_trans (List.length_filter_le _ _) ?_; simp
def b6 : Option VO := some ⟨Cp, 0, 0, false, [[.nl, .nl, .nl]]⟩
def b9 (s : Ad) : Option VO := some ⟨Cp, 0, 0, false, [Yw s]⟩
def atO (l : List Nat) : Option VO := some (AL Bj 1 ((nI l).map eI))
/-- What locations have: a value, or the list that was made at first. -/
def A8X (mem : List Int) (mv : VV) (x3 : Option VO) : Prop := mv = lI mem ∨ (mv = .sl 3 mem.length 0 mem.length ∧ x3 = some (AL Bj 1 (mem.map eI)))
/-- Where the rounds stand. -/
structure RoI (t : A3) (l : List U8) (r : Nat) (F : A1) (h : VH) (s : Ad) (at_ : List Nat) (mem : List Int) (k a : Nat) (mv : VV) (x3 : Option VO) : Prop where
 wi : WI t s mem k
 si : StI t s at_
 rk : r ≤ k
 ha : a ≤ l.length
 mv_ : A8X mem mv x3
 p3 : A1.tmp F 3 = .fp (eT t) 0
 p2 : A1.tmp F 2 = .i .i64 70
 p6 : A1.tmp F 6 = .p 0 0 0 0
 p9 : A1.tmp F 9 = .p 1 0 0 0
 p10 : A1.tmp F 10 = .sl 2 at_.length 0 at_.length
 p11 : A1.tmp F 11 = mv
 p13 : A1.tmp F 13 = .p 4 0 0 0
 hh : h = [b6, b9 s, atO at_, x3, MO l a]
section
variable {V : Al} (C : AB V)
include C
theorem TE (t : A3) (ht : A8 t) {u : Nat} (hu : u < t.nodes.length) (hth : 0 ≤ (t.at u).thread) {mem : List Int} (hm : mem.length = t.locs.length) {mv : VV} {x3 : Option VO} (k : A8X mem mv x3) (x0 x1 x2 x4 x5 : Option VO) {Q : VV → VH → Prop} :
  GF V LB [vT t, .i .i64 u, mv] [x0, x1, x2, x3, x4, x5] Q ↔ Q (Lg (GK t u mem)) [x0, x1, x2, x3, x4, x5] := by
 rcases k with rfl | ⟨rfl, rfl⟩
 ·exact T0 C t ht hu hth mem hm x0 x1 x2 x3 x4 x5
 ·exact Tr C t ht hu hth mem hm x0 x1 x2 x4 x5
omit C in
theorem A8X.cl {mem : List Int} {mv : VV} {x3 : Option VO} (k : A8X mem mv x3) {n : Nat} (hn : 3 < n) : LJ n mv = mv := by
 rcases k with rfl | ⟨rfl, rfl⟩
 ·rfl
 ·show (bif Nat.blt 3 n then _ else _) = _
  rw [show Nat.blt 3 n = true from by simp only [Nat.blt_eq]; exact hn]; rfl
theorem UY (l : List U8) (x0 x1 x2 x3 : Option VO) {Q : VV → VH → Prop} : Ma V Na [lU l] [x0, x1, x2, x3] Q ↔ Q (.p 4 0 0 0) [x0, x1, x2, x3, MO l 0] := by
 refine PA ?_
 rw [Ha C.h_z16]
 simp only [S9, QB, go_sem, ↓reduceIte]
 rfl
theorem A4D (l : List U8) (hl : l.length ≤ 1000 ∧ ∀ x ∈ l, x.n < 256) (a : Nat) (ha : a ≤ l.length) (n : Int) (x0 x1 x2 x3 x5 : Option VO) :
  GF V P2 [.p 4 0 0 0, .i .i64 n] [x0, x1, x2, x3, MO l a, x5] fun v h => ∃ k : Nat, v = .i .i64 k ∧ (1 ≤ n → (k : Int) < n) ∧ ∃ a', a' ≤ l.length ∧ h = [x0, x1, x2, x3, MO l a', x5] := by
 rw [Ct C.h_z47]
 by_cases c1 : l.length ≤ a
 ·simp only [MY, HV, go_sem, ↓reduceIte, c1]
  exact ⟨0, rfl, fun h => by omega, a, ha, rfl⟩
 ·by_cases c2 : n < 1
  ·simp only [MY, HV, go_sem, ↓reduceIte, c1, c2]
   exact ⟨0, rfl, fun h => by omega, a, ha, rfl⟩
  ·have hlt : a < l.length := by omega
   have hcell : l[a]? = some l[a] := List.getElem?_eq_getElem hlt
   have hb := hl.2 _ (List.getElem_mem hlt)
   have w0 : IntKind.i64.wrap ((l[a].n : Nat) : Int) = (l[a].n : Nat) := AS (by omega) (by omega)
   have w3 : ((l[a].n : Nat) : Int).tmod n = (((l[a].n : Nat) : Int) % n) := Int.tmod_eq_emod_of_nonneg (by omega)
   have w1 := EG (show a < 9223372036854775807 by omega)
   have w2 : IntKind.i64.wrap (((a + 1 : Nat) : Int) - 1) = (a : Int) := by rw [AS (by omega) (by omega)]; omega
   simp only [MY, HV, go_sem, ↓reduceIte, c1, c2, hcell, w1, w2, Gl (show n ≠ 0 by omega), w0, w3]
   have m1 := Int.emod_nonneg ((l[a].n : Nat) : Int) (show n ≠ 0 by omega)
   have m2 := Int.emod_lt_of_pos ((l[a].n : Nat) : Int) (show 0 < n by omega)
   exact ⟨(((l[a].n : Nat) : Int) % n).toNat, by omega, fun h => by omega, a + 1, by omega, rfl⟩
set_option maxHeartbeats 16000000 in
theorem Sa (t : A3) (ht : A8 t) (l : List U8) (hl : l.length ≤ 1000 ∧ ∀ x ∈ l, x.n < 256) {Q : VV → Prop} (hq : ∀ s mem k at_, WI t s mem k → StI t s at_ → (∀ u ∈ at_, GK t u mem = none) → Q (.tu [ML s, .b true, lI mem])) : VP V A2o [vT t, lU l, .i .i64 70] Q := by
 rw [A9 C.c_z25.1 C.c_z25.2]
 have h64 := ht.n64
 simp only [A4b, Cf, go_sem, ↓reduceIte, QG C t ht]
 refine Ak (by decide) t.nodes.length (by omega) (I := fun k F h => A1.tmp F 1 = lU l ∧ A1.tmp F 2 = .i .i64 70 ∧ A1.tmp F 3 = .fp (eT t) 0 ∧ A1.tmp F 6 = .p 0 0 0 0 ∧ A1.tmp F 9 = .p 1 0 0 0 ∧ ∃ L, L = nI (RC t k) ∧ ∃ M, M = La t k ∧ A1.tmp F 10 = .sl 2 L.length 0 L.length ∧ A1.tmp F 11 = .sl 3 M.length 0 M.length ∧ h = [b6, b9 (Bq t), some (AL Bj 1 (L.map eI)), some (AL Bj 1 (M.map eI))]) ?_ ?_ ?_ 0 _ _ (Nat.zero_le _) ?_ ?_
 ·rintro k F h hk p12 ⟨p1, p2, p3, p6, p9, L, hL, M, hM, p10, p11, rfl⟩
  simp only [Cf, go_sem, ↓reduceIte, p1, p2, p3, p6, p9, p10, p11, p12]
  exact ⟨L, hL, M, hM, rfl, rfl, rfl⟩
 ·rintro k F h hk p12 ⟨p1, p2, p3, p6, p9, L, hL, M, hM, p10, p11, rfl⟩
  have h1 := A7K t k
  have h2 := A4P t k
  have q1 : (L.length + 1) * 8 ≤ A6 := by rw [hL, By]; unfold A6; omega
  have q2 : (M.length + 1) * 8 ≤ A6 := by rw [hM]; unfold A6; omega
  cases c1 : decide ((t.at k).thread < 0) with
  | true =>
   simp only [Cf, go_sem, ↓reduceIte, p1, p2, p3, p6, p9, p10, p11, p12, hk, A5 hk, c1, A0, b6, b9, q2, Qj, List.length_append, List.length_map]
   exact ⟨L, by rw [A9E c1]; exact hL, M ++ [(t.at k).val], by rw [AbL c1, hM], by simp, by simp, rfl⟩
  | false =>
  cases c2 : decide ((t.at k).up < 0) with
  | true =>
   simp only [Cf, go_sem, ↓reduceIte, p1, p2, p3, p6, p9, p10, p11, p12, hk, A5 hk, c1, c2, A0, b6, b9, q1, Qj, List.length_append, List.length_map]
   exact ⟨L ++ [(k : Int)], by rw [AeW c1 c2, hL, TV], M, by rw [A6u c1]; exact hM, by simp, by simp, rfl⟩
  | false =>
   simp only [Cf, go_sem, ↓reduceIte, p1, p2, p3, p6, p9, p10, p11, p12, hk, A5 hk, c1, c2, A0, b6, b9]
   exact ⟨L, by rw [A9W c2]; exact hL, M, by rw [A6u c1]; exact hM, rfl, rfl, rfl⟩
 ·rintro F h ⟨p1, p2, p3, p6, p9, L, hL, M, hM, p10, p11, rfl⟩
  simp only [Cf, go_sem, ↓reduceIte, p1, p2, p3, p6, p9, p10, p11, UY C l]
  refine Ak (by decide) 70 (by omega) (I := fun r F h => ∃ s at_ mem k a mv x3, RoI t l r F h s at_ mem k a mv x3) ?_ ?_ ?_ 0 _ _ (Nat.zero_le _) ?_ ?_
  ·rintro r F h hr p14 ⟨s, at_, mem, k, a, mv, x3, R⟩
   have hd : decide ((r : Int) < 70) = decide (r < 70) := decide_eq_decide.2 (by omega)
   obtain ⟨W, S, rk, ha, hmv, p3, p2, p6, p9, p10, p11, p13, rfl⟩ := R
   simp only [Cf, go_sem, ↓reduceIte, p2, p3, p6, p9, p10, p11, p13, p14, hd]
   refine ⟨s, at_, mem, k, a, mv, x3, W, S, rk, ha, hmv, ?_, ?_, ?_, ?_, ?_, ?_, ?_, rfl⟩ <;> simp only [Cf, go_sem, ↓reduceIte, p2, p3, p6, p9, p10, p11, p13]
  ·rintro r F h hr p14 ⟨s, at_, mem, k, a, mv, x3, R⟩
   obtain ⟨W, S, rk, ha, hmv, p3, p2, p6, p9, p10, p11, p13, rfl⟩ := R
   have hal : at_.length ≤ 64 := by
    have hd : (at_.map fun (i : Nat) => (i : Int)).Nodup := by
     rw [List.nodup_iff_pairwise_ne, List.pairwise_map]
     exact S.pw.imp fun h e => h (by rw [show _ = _ from Int.ofNat.inj e])
    have := JB _ s.has hd (fun y hy => by
     obtain ⟨m, hm, rfl⟩ := List.mem_map.1 hy
     exact (S.has m hm).1)
    rw [List.length_map] at this
    have := W.form.len
    omega
   have hcv := hmv.cl (n := 6) (by decide)
   have hcv5 := hmv.cl (n := 5) (by decide)
   have hok : ∀ j, j < at_.length → at_.getD j 0 < t.nodes.length ∧ 0 ≤ (t.at (at_.getD j 0)).thread := fun j hj => by
    have hm := Aq (d := 0) hj
    obtain ⟨h1, h2⟩ := S.has _ hm
    obtain ⟨m, e, hm⟩ := Aj (W.gr.ok _ h1)
    exact ⟨by omega, h2⟩
   have hst := fun (j : Nat) (hj : j < at_.length) (x0 x1 x2 x4 x5 : Option VO) (Q : VV → VH → Prop) => TE C t ht (hok j hj).1 (hok j hj).2 W.ml hmv x0 x1 x2 x4 x5 (Q := Q)
   simp only [Cf, go_sem, ↓reduceIte, p2, p3, p6, p9, p10, p11, p13, p14, A0]
   refine Ak (by decide) at_.length (by omega) (I := fun j F h => A1.tmp F 2 = .i .i64 70 ∧ A1.tmp F 3 = .fp (eT t) 0 ∧ A1.tmp F 6 = .p 0 0 0 0 ∧ A1.tmp F 9 = .p 1 0 0 0 ∧ A1.tmp F 10 = .sl 2 at_.length 0 at_.length ∧ A1.tmp F 11 = mv ∧ A1.tmp F 13 = .p 4 0 0 0 ∧ A1.tmp F 14 = .i .i64 r ∧ ∃ L, L = nI (KZ t at_ mem j) ∧ A1.tmp F 15 = .sl 5 L.length 0 L.length ∧ h = [b6, b9 s, atO at_, x3, MO l a, some (AL Bj 1 (L.map eI))]) ?_ ?_ ?_ 0 _ _ (Nat.zero_le _) ?_ ?_
   ·rintro j F h hj p16 ⟨p2, p3, p6, p9, p10, p11, p13, p14, L, hL, p15, rfl⟩
    simp only [Cf, go_sem, ↓reduceIte, p2, p3, p6, p9, p10, p11, p13, p14, p15, p16]
    exact ⟨L, hL, rfl, rfl⟩
   ·rintro j F h hj p16 ⟨p2, p3, p6, p9, p10, p11, p13, p14, L, hL, p15, rfl⟩
    have gat : (nI at_)[j]? = some ((at_.getD j 0 : Nat) : Int) := by simp [nI, hj]
    have hs := hst j hj b6 (b9 s) (atO at_) (MO l a) (some (AL Bj 1 (L.map eI)))
    have hcl := A5o t at_ mem j
    have q1 : (L.length + 1) * 8 ≤ A6 := by rw [hL, By]; unfold A6; omega
    have hao : atO at_ = some ⟨Bj, 1, at_.length, false, (nI at_).map eI⟩ := by rw [atO, Ko (by rw [List.length_map, By]; omega), List.length_map, By]
    rw [hao] at hs ⊢
    cases e : GK t (at_.getD j 0) mem with
    | none =>
     rw [e] at hs
     simp only [Cf, go_sem, ↓reduceIte, p2, p3, p6, p9, p10, p11, p13, p14, p15, p16, gat, hs, hj, By, Lg, hcv, A0, List.length_map]
     exact ⟨L, by rw [Abr e]; exact hL, rfl, rfl⟩
    | some x =>
     obtain ⟨to, out⟩ := x
     rw [e] at hs
     simp only [Cf, go_sem, ↓reduceIte, p2, p3, p6, p9, p10, p11, p13, p14, p15, p16, gat, hs, hj, By, Lg, hcv, A0, q1, Qj, List.length_append, List.length_map]
     exact ⟨L ++ [(j : Int)], by rw [Aa0 e, hL, TV], by simp, rfl⟩
   ·rintro F h ⟨p2, p3, p6, p9, p10, p11, p13, p14, L, hL, p15, rfl⟩
    cases c0 : decide (L.length = 0) with
    | true =>
     have c0' := of_decide_eq_true c0
     have c0i : decide ((L.length : Int) = 0) = true := decide_eq_true (by omega)
     have hfin := hq s mem k at_ W S (fun u hu => by
      obtain ⟨j, hj, rfl⟩ := List.getElem_of_mem hu
      have hnil : KZ t at_ mem at_.length = [] := List.length_eq_zero_iff.1 (by rwa [hL, By] at c0')
      have hnm : j ∉ KZ t at_ mem at_.length := by rw [hnil]; simp
      simp only [KZ, List.mem_filter, List.mem_range, not_and, Bool.not_eq_true] at hnm
      have := hnm hj
      rw [List.getD_eq_getElem?_getD, List.getElem?_eq_getElem hj] at this
      exact Option.isNone_iff_eq_none.1 (by rw [← Option.not_isSome, show (GK t at_[j] mem).isSome = false from this]; rfl))
     rcases hmv with rfl | ⟨rfl, rfl⟩
     ·simp only [Cf, go_sem, ↓reduceIte, p2, p3, p6, p9, p10, p11, p13, p14, p15, c0, c0i, b6, b9, A0]
      exact hfin
     ·simp only [Cf, go_sem, ↓reduceIte, p2, p3, p6, p9, p10, p11, p13, p14, p15, c0, c0i, b6, b9, A0, List.length_map]
      exact hfin
    | false =>
    have c0' := of_decide_eq_false c0
    have c0i : decide ((L.length : Int) = 0) = false := decide_eq_false (by omega)
    simp only [Cf, go_sem, ↓reduceIte, p2, p3, p6, p9, p10, p11, p13, p14, p15, c0, c0i]
    refine (A4D C l hl a ha _ _ _ _ _ _).mono ?_
    rintro _ _ ⟨p, rfl, hp, a', ha', rfl⟩
    have hpl : p < L.length := by have := hp (by omega); omega
    obtain ⟨q, hqe, hqm⟩ : ∃ q : Nat, L.getD p 0 = q ∧ q ∈ KZ t at_ mem at_.length := by
     have hpl' : p < (KZ t at_ mem at_.length).length := by rwa [hL, By] at hpl
     exact ⟨_, by rw [hL]; exact Abb hpl', List.getElem_mem hpl'⟩
    have gL := Au hpl
    rw [hqe] at gL
    simp only [KZ, List.mem_filter, List.mem_range] at hqm
    obtain ⟨hql, hqs⟩ := hqm
    obtain ⟨⟨to, out⟩, e⟩ := Option.isSome_iff_exists.1 hqs
    have gat : (nI at_)[q]? = some ((at_.getD q 0 : Nat) : Int) := by simp [nI, hql]
    obtain ⟨hto, s1, s2, k1, k2, hif, W1, w2, W2, hk, S2⟩ := A8t ht W S hql (u := at_.getD q 0) (by rw [List.getD_eq_getElem?_getD, List.getElem?_eq_getElem hql]; rfl) e
    have hs := hst q hql b6 (b9 s) (atO at_) (MO l a') (some (AL Bj 1 (L.map eI)))
    have hao : atO at_ = some ⟨Bj, 1, at_.length, false, (nI at_).map eI⟩ := by rw [atO, Ko (by rw [List.length_map, By]; omega), List.length_map, By]
    have hao2 : some ⟨Bj, 1, at_.length, false, (nI (at_.set q to)).map eI⟩ = atO (at_.set q to) := by rw [atO, Ko (by rw [List.length_map, By, List.length_set]; omega), List.length_map, By, List.length_set]
    rw [hao] at hs ⊢
    rw [e] at hs
    simp only [b6, b9] at hs
    have wk := fun {s : Ad} {k : Nat} (W : WI t s mem k) {n : Nat} (hn : n < t.nodes.length) {s' : Ad} (hw : Wlk t s n s') (Q : VV → Prop) => QO C t ht s (W.gr.sz ht (by have := W.k64 ht; omega)) (W.gr.sz' (by have := W.k64 ht; omega)) hn hw W.form.ml (fun loc hl => W.pos hl) (fun loc hl c hc => by obtain ⟨w, h, _⟩ := W.one loc hl c hc; exact ⟨w, h⟩) (Q := Q)
    have hw2 := wk W1 hto w2
    have hix := HJ (ty := Bj) (e := 1) (rows := L.map eI) (by rw [List.length_map]; exact c0')
    have hokB : okB 5 (atO (at_.set q to)) = true := by
     unfold atO
     simp only [go_sem]
    have hset : (List.map eI (nI at_)).set q [.i .i64 (to : Nat)] = (nI (at_.set q to)).map eI := by rw [A6I, Aan]
    cases cu : decide ((t.at to).up = ((at_.getD q 0 : Nat) : Int)) with
    | true =>
     rw [if_neg (by rw [of_decide_eq_true cu]; simp)] at hif
     subst hif
     simp only [Cf, go_sem, ↓reduceIte, p2, p3, p6, p9, p10, p11, p13, p14, p15, gL, hpl, hix, gat, hs, hql, By, Lg, hcv, hcv5, cu, hto, A5 hto, hw2, hset, hao2, b6, b9, A0, List.length_map]
     refine ⟨.inr hokB, fun _ _ => ?_⟩
     refine ⟨s2, at_.set q to, out, k2, a', lI out, x3, W2, S2, by omega, ha', .inl rfl, ?_, ?_, ?_, ?_, ?_, ?_, ?_, rfl⟩ <;> simp only [Cf, go_sem, ↓reduceIte, p2, p3, p6, p9, p10, p11, p13, List.length_set]
    | false =>
     rw [if_pos (of_decide_eq_false cu)] at hif
     obtain ⟨m, hm, hml, w1⟩ := hif
     have hw1 := wk W hml w1
     rw [← hm] at hw1
     simp only [Cf, go_sem, ↓reduceIte, p2, p3, p6, p9, p10, p11, p13, p14, p15, gL, hpl, hix, gat, hs, hql, By, Lg, hcv, hcv5, cu, hto, A5 hto, hw1, hw2, hset, hao2, b6, b9, A0, List.length_map]
     refine ⟨.inr hokB, fun _ _ => ?_⟩
     refine ⟨s2, at_.set q to, out, k2, a', lI out, x3, W2, S2, by omega, ha', .inl rfl, ?_, ?_, ?_, ?_, ?_, ?_, ?_, rfl⟩ <;> simp only [Cf, go_sem, ↓reduceIte, p2, p3, p6, p9, p10, p11, p13, List.length_set]
   ·simp only [Cf, go_sem, ↓reduceIte]
   ·simp only [Cf, go_sem, ↓reduceIte, p2, p3, p6, p9, p10, p11, p13, p14]
    exact ⟨[], rfl, rfl, rfl⟩
  ·rintro F h ⟨s, at_, mem, k, a, mv, x3, R⟩
   have := R.wi.k64 ht
   have := R.rk
   omega
  ·simp only [Cf, go_sem, ↓reduceIte]
  ·subst hL hM
   rw [By] at p10
   refine ⟨Bq t, RC t t.nodes.length, La t t.nodes.length, 0, 0, _, _, AeC ht, Ae6 ht, Nat.zero_le _, Nat.zero_le _, .inr ⟨rfl, rfl⟩, ?_, ?_, ?_, ?_, ?_, ?_, ?_, rfl⟩ <;> simp only [Cf, go_sem, ↓reduceIte, p2, p3, p6, p9, p10, p11]
 ·simp only [Cf, go_sem, ↓reduceIte]
 ·simp only [Cf, go_sem, ↓reduceIte]
  exact ⟨[], rfl, [], rfl, rfl, rfl, rfl⟩
end
end Go.AM

namespace Go.AM
open Go Go.Proofs
def Es (s : Ad) : Jo := ⟨s.has, s.jf, s.mo.map fun l => l.flatten⟩
def exH (s : Ad) (L : List (List Int)) : VH := [some ⟨PQ, 0, 0, false, [[.nl, .nl, .nl]]⟩, some (cpO Bj 1 (s.has.map eI)), some (cpO Bj 1 (s.jf.map eI)),
 some ⟨PQ, 0, 0, false, [[.sl 1 (cpV s.has.length) 0 s.has.length, .sl 2 (cpV s.jf.length) 0 s.jf.length, .sl 4 L.length 0 L.length]]⟩, some (AL A1C 1 (L.map NI))]
section
variable {V : Al} (C : AB V) {Q : VV → Prop}
include C
set_option maxHeartbeats 8000000 in
theorem Vq (s : Ad) (hs : N7 s) (h1 : ∀ l ∈ s.mo, ∀ c ∈ l, ∃ w : Int, c = [w]) : VP V Zy [ML s] Q ↔ Q (vEx (Es s)) := by
 refine Aa ?_
 rw [A9 C.c_z6.1 C.c_z6.2]
 have g1 := hs.has
 have g2 := hs.jf
 have g3 := hs.mo
 have b1 : s.has.length * 8 ≤ A6 := by unfold A6; omega
 have b2 : s.jf.length * 8 ≤ A6 := by unfold A6; omega
 simp only [A5s, Lx, go_sem, ↓reduceIte, b1, b2]
 refine Ak (by decide) s.mo.length (by omega) (I := fun k F h => A1.tmp F 1 = .fp (Yw s) 0 ∧ A1.tmp F 2 = .p 0 0 0 0 ∧ A1.tmp F 3 = .p 3 0 0 0 ∧ ∃ L, L = (s.mo.take k).map (fun l => l.flatten) ∧ h = exH s L) ?_ ?_ ?_ 0 _ _ (Nat.zero_le _) ?_ ?_
 ·rintro k F h hk p4 ⟨p1, p2, p3, L, hL, rfl⟩
  simp only [Lx, go_sem, ↓reduceIte, p4, p1, p2, p3]
  exact ⟨L, hL, rfl⟩
 ·rintro k F h hk p4 ⟨p1, p2, p3, L, hL, rfl⟩
  obtain ⟨M, hM⟩ : ∃ M, M = s.mo.getD k [] := ⟨_, rfl⟩
  have gL := CG hk
  have hm := hs.mi' k
  have hone := h1 _ (Aq (d := []) hk)
  rw [← hM] at gL hm hone
  have hLl : L.length = k := by rw [hL, List.length_map, List.length_take]; omega
  have hnext : (s.mo.take (k + 1)).map (fun l => l.flatten) = L ++ [M.flatten] := by
   rw [List.take_succ_eq_append_getElem hk, List.map_append, ← hL, hM, List.getD_eq_getElem?_getD, List.getElem?_eq_getElem hk]; rfl
  simp only [Lx, go_sem, ↓reduceIte, p4, p1, p2, p3, gL, hk, A0, exH]
  refine Ak (by decide) M.length (by omega) (I := fun j F h => A1.tmp F 4 = .i .i64 k ∧ A1.tmp F 1 = .fp (Yw s) 0 ∧ A1.tmp F 2 = .p 0 0 0 0 ∧ A1.tmp F 3 = .p 3 0 0 0 ∧ ∃ K, K = (M.take j).flatten ∧ K.length = j ∧ A1.tmp F 5 = .sl 5 K.length 0 K.length ∧ h = exH s L ++ [some (AL Bj 1 (K.map eI))]) ?_ ?_ ?_ 0 _ _ (Nat.zero_le _) ?_ ?_
  ·rintro j F h hj q6 ⟨q4, q1, q2, q3, K, hK, hKl, q5, rfl⟩
   simp only [Lx, go_sem, ↓reduceIte, q6, q4, q1, q2, q3, q5, gL, hk]
   exact ⟨K, hK, hKl, rfl, rfl⟩
  ·rintro j F h hj q6 ⟨q4, q1, q2, q3, K, hK, hKl, q5, rfl⟩
   obtain ⟨w, hw⟩ := hone _ (Aq (d := []) hj)
   have gI := GN hj
   rw [hw] at gI
   have hKn : (M.take (j + 1)).flatten = K ++ [w] := by
    rw [List.take_succ_eq_append_getElem hj, List.flatten_append, ← hK]
    rw [List.getD_eq_getElem?_getD, List.getElem?_eq_getElem hj] at hw
    rw [show M[j] = [w] from hw]; simp
   have b3 : (K.length + 1) * 8 ≤ A6 := by unfold A6; omega
   simp only [Lx, go_sem, ↓reduceIte, q6, q4, q1, q2, q3, q5, gL, hk, gI, hj, b3, exH, Qj, A0, List.length_append, List.length_map, List.map_cons, List.map_nil]
   exact ⟨K ++ [w], hKn.symm, by simp [hKl], by simp, rfl⟩
  ·rintro F h ⟨q4, q1, q2, q3, K, hK, hKl, q5, rfl⟩
   rw [List.take_length] at hK
   subst hK
   have b4 : (L.length + 1) * 24 ≤ A6 := by unfold A6; omega
   simp only [Lx, go_sem, ↓reduceIte, q4, q1, q2, q3, q5, b4, exH, A4T, List.length_append, List.length_map]
   exact ⟨_, hnext.symm, by rw [List.length_append]; rfl⟩
  ·simp only [Lx, go_sem, ↓reduceIte]
  ·simp only [Lx, go_sem, ↓reduceIte, p4, p1, p2, p3, exH]
   exact ⟨[], rfl, rfl, rfl, rfl⟩
 ·rintro F h ⟨p1, p2, p3, L, hL, rfl⟩
  rw [List.take_length] at hL
  subst hL
  simp only [Lx, go_sem, ↓reduceIte, p1, p2, p3, exH, List.length_map]
  rfl
 ·simp only [Lx, go_sem, ↓reduceIte]
 ·simp only [Lx, go_sem, ↓reduceIte]
  exact ⟨[], rfl, rfl⟩
end
end Go.AM

namespace Go.AM
open Go Go.Proofs
def M0 (t : A3) (loc : Nat) (n : Int) : Bool := decide ((t.at n.toNat).kind = 3) && decide ((t.at n.toNat).loc = loc)
def S5 (t : A3) (has : List Int) (loc : Nat) : Nat → BitVec 64
 | 0 => 0#64
 | k + 1 => if M0 t loc (has.getD k 0) = true then S5 t has loc k ||| Cy (has.getD k 0) else S5 t has loc k
def HE (t : A3) (e : Jo) (loc : Nat) : Bool := decide ((e.mo.getD loc []).length = (Bx (S5 t e.has loc e.has.length)).length) && decide (Cg (e.mo.getD loc []) = S5 t e.has loc e.has.length)
def A5n (t : A3) (e : Jo) : Bool := decide (e.mo.length = t.locs.length) && (List.range e.mo.length).all (HE t e)
def isX (t : A3) (e : Jo) : Bool := El t e.has e.rf && A5n t e
def xPl (t : A3) (e : Jo) (n : Int) : Int := if (t.at n.toNat).kind ≠ 2 ∧ (t.at n.toNat).kind ≠ 3 then 0 else Eh (e.mo.getD (t.at n.toNat).loc.toNat []) (if (t.at n.toNat).kind = 2 then e.rf.getD (Eh e.has n).toNat 0 else n)
def V9 (r : Rows) : Bool := (List.range r.length).all fun i => !BR (r.getD i 0#64) i
def A2a (t : A3) (e : Jo) : Bool := isX t e && V9 (Ns t e.has e.rf) && (BH (Ns t e.has e.rf)).all fun x => DG (t.at x.1.toNat) (t.at x.2.toNat) (xPl t e x.1) (xPl t e x.2)
structure SzE (e : Jo) : Prop where
 has : e.has.length ≤ 1000
 rf : e.rf.length ≤ 1000
 mo : e.mo.length ≤ 1000
 mi : ∀ l ∈ e.mo, l.length ≤ 1000
theorem SzE.mi' {e : Jo} (h : SzE e) (k : Nat) : (e.mo.getD k []).length ≤ 1000 := by
 by_cases c : k < e.mo.length
 ·exact h.mi _ (Aq c)
 ·rw [List.getD_eq_getElem?_getD, List.getElem?_eq_none (by omega)]; simp
abbrev eRn (t : A3) (e : Jo) : List VV := [.i .i64 t.vals, lS t.locs, .ls (t.regs.map J2), .ls (t.nodes.map eN), lI e.has, lI e.rf, .ls (e.mo.map NI)]
section
variable {V : Al} (C : AB V) {Q : VV → Prop}
include C
set_option maxHeartbeats 8000000 in
theorem R3 (t : A3) (ht : A8 t) (e : Jo) (he : SzE e) (hn : Co t e.has) : VP V A07 [.ag (eRn t e)] Q ↔ Q (.b (A5n t e)) := by
 refine Aa ?_
 rw [A9 C.c_z63.1 C.c_z63.2]
 have g1 := he.has
 have g3 := he.mo
 unfold A5n
 have ci : decide ((e.mo.length : Int) = (t.locs.length : Int)) = decide (e.mo.length = t.locs.length) := decide_eq_decide.2 (by omega)
 cases c0 : decide (e.mo.length = t.locs.length) with
 | false =>
  simp only [A0I, DJ, go_sem, ↓reduceIte, ci, c0, Bool.false_and]
 | true =>
 simp only [A0I, DJ, go_sem, ↓reduceIte, ci, c0, Bool.true_and]
 refine Ac (by decide) e.mo.length (by omega) (I := fun k F h => A1.tmp F 1 = .fp (eRn t e) 0 ∧ A1.tmp F 20 = .ls (e.mo.map NI) ∧ h = [] ∧ ∀ j, j < k → HE t e j = true) ?_ ?_ 0 _ _ (by omega) ?_ ?_ ?_
 ·rintro k F h hk p22 p21 ⟨p1, p20, rfl, pr⟩
  have gL := GN hk
  have hmi := he.mi' k
  obtain ⟨M, hM⟩ : ∃ M, M = e.mo.getD k [] := ⟨_, rfl⟩
  have hcnt := fun (w : BitVec 64) (Q : VV → Prop) => J5 C w (Q := Q)
  rw [← hM] at gL hmi
  simp only [DJ, go_sem, ↓reduceIte, p22, p21, p1, p20, gL, hk, A0]
  refine Ac (by decide) e.has.length (by omega) (I := fun j F h => A1.tmp F 22 = .i .i64 k ∧ A1.tmp F 21 = .i .i64 e.mo.length ∧ A1.tmp F 1 = .fp (eRn t e) 0 ∧ A1.tmp F 20 = .ls (e.mo.map NI) ∧ A1.tmp F 3 = .i .i64 k ∧ A1.tmp F 4 = lI M ∧ A1.tmp F 29 = lI e.has ∧ A1.tmp F 5 = vW (S5 t e.has k j) ∧ h = []) ?_ ?_ 0 _ _ (by omega) ?_ ?_ ?_
  ·rintro j F h hj q31 q30 ⟨q22, q21, q1, q20, q3, q4, q29, q5, rfl⟩
   have gI := Au hj
   obtain ⟨n, hne, hnl⟩ := Aj (hn _ (Aq (d := 0) hj))
   rw [hne] at gI
   cases c1 : decide ((t.at n).kind = 3) with
   | false =>
    have hw : S5 t e.has k (j + 1) = S5 t e.has k j := by rw [S5, if_neg (by rw [M0, hne, Int.toNat_natCast, c1]; simp)]
    simp only [DJ, go_sem, ↓reduceIte, q31, q30, q22, q21, q1, q20, q3, q4, q29, q5, gI, hj, hnl, A5 hnl, c1, hw, A0]
   | true =>
   cases c2 : decide ((t.at n).loc = (k : Int)) with
   | false =>
    have hw : S5 t e.has k (j + 1) = S5 t e.has k j := by rw [S5, if_neg (by rw [M0, hne, Int.toNat_natCast, c1, c2]; simp)]
    simp only [DJ, go_sem, ↓reduceIte, q31, q30, q22, q21, q1, q20, q3, q4, q29, q5, gI, hj, hnl, A5 hnl, c1, c2, hw, A0]
   | true =>
    have hw : S5 t e.has k (j + 1) = S5 t e.has k j ||| Cy (n : Int) := by rw [S5, if_pos (by rw [M0, hne, Int.toNat_natCast, c1, c2]; rfl), hne]
    simp only [DJ, go_sem, ↓reduceIte, q31, q30, q22, q21, q1, q20, q3, q4, q29, q5, gI, hj, hnl, A5 hnl, c1, c2, hw, Cw C, A0]
  ·rintro F h ⟨q22, q21, q1, q20, q3, q4, q29, q5, rfl⟩
   have hat : HE t e k = (decide (M.length = (Bx (S5 t e.has k e.has.length)).length) && decide (Cg M = S5 t e.has k e.has.length)) := by rw [HE, hM]
   obtain ⟨W, hW⟩ : ∃ W, W = S5 t e.has k e.has.length := ⟨_, rfl⟩
   rw [← hW] at q5 hat
   have d1i : decide ((M.length : Int) = ((Bx W).length : Int)) = decide (M.length = (Bx W).length) := decide_eq_decide.2 (by omega)
   cases d1 : decide (M.length = (Bx W).length) with
   | false =>
    have hb := AY (p := HE t e) hk (by rw [hat, d1]; rfl)
    simp only [DJ, go_sem, ↓reduceIte, q22, q21, q1, q20, q3, q4, q5, hcnt, d1i, d1, hb]
   | true =>
   cases d2 : decide (Cg M = W) with
   | false =>
    have hb := AY (p := HE t e) hk (by rw [hat, d1, d2]; rfl)
    simp only [DJ, go_sem, ↓reduceIte, q22, q21, q1, q20, q3, q4, q5, hcnt, d1i, d1, HA C M (by omega), d2, hb]
   | true =>
    have hg : HE t e k = true := by rw [hat, d1, d2]; rfl
    simp only [DJ, go_sem, ↓reduceIte, q22, q21, q1, q20, q3, q4, q5, hcnt, d1i, d1, HA C M (by omega), d2]
    intro j hj
    rcases Nat.lt_or_ge j k with c | c
    ·exact pr j c
    ·rw [show j = k by omega]; exact hg
  ·simp only [DJ, go_sem, ↓reduceIte]
  ·simp only [DJ, go_sem, ↓reduceIte]
  ·simp only [DJ, go_sem, ↓reduceIte, p22, p21, p1, p20, S5]
 ·rintro F h ⟨p1, p20, rfl, pr⟩
  have hb := AR pr
  simp only [DJ, go_sem, ↓reduceIte, p1, p20, hb]
 ·simp only [DJ, go_sem, ↓reduceIte]
 ·simp only [DJ, go_sem, ↓reduceIte]
 ·simp only [DJ, go_sem, ↓reduceIte]
  intro j hj; omega
set_option maxHeartbeats 8000000 in
theorem LP (t : A3) (ht : A8 t) (e : Jo) (he : SzE e) {n : Nat} (hn : n < t.nodes.length) (hk : (t.at n).kind = 2 ∨ (t.at n).kind = 3) (hm : e.mo.length = t.locs.length) (hl : e.has.length = e.rf.length) (hh : (n : Int) ∈ e.has) : VP V A21 [.ag (eRn t e), .i .i64 n] Q ↔ Q (.i .i64 (xPl t e n)) := by
 refine Aa ?_
 rw [A9 C.c_z29.1 C.c_z29.2]
 have g1 := he.has
 obtain ⟨i, hi, hil, _⟩ := DF (A7.2 hh)
 have hloc := ht.wloc hn hk
 obtain ⟨loc, hlo⟩ := Int.eq_ofNat_of_zero_le hloc.1
 have hll : loc < e.mo.length := by omega
 have gL := GN hll
 have gR := Au (show i < e.rf.length by omega)
 have hir : i < e.rf.length := by omega
 have hmi := he.mi' loc
 unfold xPl
 rw [Int.toNat_natCast, if_neg (by omega), hlo, Int.toNat_natCast, hi, Int.toNat_natCast]
 cases c : decide ((t.at n).kind = 2) with
 | true =>
  rw [if_pos (of_decide_eq_true c)]
  have hix : Ci (fun y => decide ((n : Int) = y)) e.has = (i : Int) := hi
  simp only [A2l, WU, go_sem, ↓reduceIte, hn, A5 hn, c, hlo, hll, gL, gR, hir, Bo C e.has _ (by omega), Bo C (e.mo.getD loc []) _ (by omega), hix]
  rfl
 | false =>
  rw [if_neg (of_decide_eq_false c)]
  simp only [A2l, WU, go_sem, ↓reduceIte, hn, A5 hn, c, hlo, hll, gL, Bo C (e.mo.getD loc []) _ (by omega)]
  rfl
end
end Go.AM

namespace Go.AM
open Go Go.Proofs
section
variable {V : Al} (C : AB V) {Q : VV → Prop}
include C
set_option maxHeartbeats 4000000 in
theorem A3F (t : A3) (ht : A8 t) (e : Jo) (he : SzE e) : VP V A1c [vT t, vEx e] Q ↔ Q (.b (isX t e)) := by
 refine Aa ?_
 rw [A9 C.c_z26.1 C.c_z26.2]
 have h64 := ht.n64
 have hpos : 0 < t.nodes.length := by
  obtain ⟨s, h1, _⟩ := ht.kinds
  have := (h1 0 (by have := ht.r1; omega)).1
  omega
 have hhb := fun (Q : VV → Prop) => Mj C t ht e.has e.rf he.has he.rf (Q := Q)
 unfold isX
 cases hf : El t e.has e.rf with
 | false =>
  rw [hbF, if_neg (by rw [hf]; decide)] at hhb
  simp only [A18, WL, go_sem, ↓reduceIte, hhb, Bool.false_and]
 | true =>
  have hF := Gd hf
  rw [hbF, if_pos hf] at hhb
  have hl : (Ns t e.has e.rf).length = t.nodes.length := Eg h64 _
  have hd : decide ((0 : Int) < ((Ns t e.has e.rf).length : Nat)) = true := decide_eq_true (by omega)
  have hd2 : decide (0 < (Ns t e.has e.rf).length) = true := decide_eq_true (by omega)
  have hpl := fun (Q : VV → Prop) => R3 C t ht e he hF.node (Q := Q)
  simp only [A18, WL, go_sem, ↓reduceIte, hhb, Bool.true_and, hd, hd2, hpl, List.length_map]
set_option maxHeartbeats 4000000 in
theorem SR (t : A3) (ht : A8 t) (e : Jo) (he : SzE e) (hm : e.mo.length = t.locs.length) (hl : e.has.length = e.rf.length) {n : Nat} (hn : n < t.nodes.length) (hh : (n : Int) ∈ e.has) :
  VP V UR [.i .i64 n, .fp (eT t) 0, .fp (eRn t e) 0] Q ↔ Q (.i .i64 (xPl t e n)) := by
 refine Aa ?_
 rw [A9 C.c_z28.1 C.c_z28.2]
 cases c2 : decide ((t.at n).kind = 2) with
 | true =>
  have hp := fun (Q : VV → Prop) => LP C t ht e he hn (.inl (of_decide_eq_true c2)) hm hl hh (Q := Q)
  simp only [Vx, Rm, go_sem, ↓reduceIte, hn, A5 hn, c2, hp]
 | false =>
 cases c3 : decide ((t.at n).kind = 3) with
 | true =>
  have hp := fun (Q : VV → Prop) => LP C t ht e he hn (.inr (of_decide_eq_true c3)) hm hl hh (Q := Q)
  simp only [Vx, Rm, go_sem, ↓reduceIte, hn, A5 hn, c2, c3, hp]
 | false =>
  have e0 : xPl t e n = 0 := by rw [xPl, Int.toNat_natCast, if_pos ⟨of_decide_eq_false c2, of_decide_eq_false c3⟩]
  rw [e0]
  simp only [Vx, Rm, go_sem, ↓reduceIte, hn, A5 hn, c2, c3]
set_option maxHeartbeats 8000000 in
theorem V5 (t : A3) (ht : A8 t) (e : Jo) (he : SzE e) : VP V A7V [vT t, vEx e] Q ↔ Q (.b (A2a t e)) := by
 refine Aa ?_
 rw [A9 C.c_z7.1 C.c_z7.2]
 have h64 := ht.n64
 have his := fun (Q : VV → Prop) => A3F C t ht e he (Q := Q)
 unfold A2a
 cases hi : isX t e with
 | false =>
  simp only [A8q, Pg, go_sem, ↓reduceIte, his, hi, Bool.false_and]
 | true =>
  have hi' := hi
  simp only [isX, A5n, Bool.and_eq_true, decide_eq_true_eq] at hi'
  obtain ⟨hf, hml, _⟩ := hi'
  have hF := Gd hf
  have hhb := fun (Q : VV → Prop) => Mj C t ht e.has e.rf he.has he.rf (Q := Q)
  rw [hbF, if_pos hf] at hhb
  have hl : (Ns t e.has e.rf).length = t.nodes.length := Eg h64 _
  have hpl : (BH (Ns t e.has e.rf)).length ≤ 5000 := by
   have := MH (Ns t e.has e.rf) (Ns t e.has e.rf).length
   rw [BH]
   split
   ·rw [hl] at this ⊢; omega
   ·simp
  have hin : ∀ x ∈ BH (Ns t e.has e.rf), ∃ a b : Nat, a < t.nodes.length ∧ b < t.nodes.length ∧ (a : Int) ∈ e.has ∧ (b : Int) ∈ e.has ∧ x = ((a : Int), (b : Int)) := fun x hx => by
   obtain ⟨a, b, ha, e, hp⟩ := (E0 h64 _ _).1 hx
   have := Uo ht hF hp
   exact ⟨a, b, ha, hp.lt, this.1, this.2, e⟩
  have hpr := fun (Q : VV → Prop) => LG C (fun n => (n : Int) ∈ e.has) t ht (Ns t e.has e.rf) hin hpl (g := UR) (c := [.fp (eT t) 0, .fp (eRn t e) 0]) (fun _ _ => rfl) (xPl t e) (fun n hn hh Q => SR C t ht e he hml hF.len hn hh (Q := Q)) (Q := Q)
  obtain ⟨R, hR⟩ : ∃ R, R = Ns t e.has e.rf := ⟨_, rfl⟩
  rw [← hR] at hl hhb hpr ⊢
  rw [Bool.true_and]
  simp only [A8q, Pg, go_sem, ↓reduceIte, his, hi, hhb]
  refine Ac (by decide) R.length (by omega) (I := fun k F h => A1.tmp F 2 = .fp (eT t) 0 ∧ A1.tmp F 5 = lW R ∧ A1.tmp F 22 = lW R ∧ A1.tmp F 6 = .p 0 0 0 0 ∧ h = [some ⟨Zi, 0, 0, false, [eRn t e]⟩] ∧ ∀ j, j < k → BR (R.getD j 0#64) j = false) ?_ ?_ 0 _ _ (by omega) ?_ ?_ ?_
  ·rintro k F h hk p24 p23 ⟨p2, p5, p22, p6, rfl, pr⟩
   have gW := G7 (a := R) hk
   cases c1 : BR (R.getD k 0#64) (k : Int) with
   | true =>
    have hb : V9 R = false := AY hk (by rw [c1]; rfl)
    simp only [Pg, go_sem, ↓reduceIte, p24, p23, p2, p5, p22, p6, gW, hk, AJ C, c1, hb, A0, Bool.false_and]
   | false =>
    simp only [Pg, go_sem, ↓reduceIte, p24, p23, p2, p5, p22, p6, gW, hk, AJ C, c1, A0]
    intro j hj
    rcases Nat.lt_or_ge j k with c | c
    ·exact pr j c
    ·rw [show j = k by omega]; exact c1
  ·rintro F h ⟨p2, p5, p22, p6, rfl, pr⟩
   have hb : V9 R = true := AR fun j hj => by rw [pr j hj]; rfl
   simp only [Pg, go_sem, ↓reduceIte, p2, p5, p22, p6, hpr, hb, Bool.true_and]
  ·simp only [Pg, go_sem, ↓reduceIte]
  ·simp only [Pg, go_sem, ↓reduceIte]
  ·simp only [Pg, go_sem, ↓reduceIte]
   intro j hj; omega
end
end Go.AM

namespace Go.AM
open Go Go.Proofs
theorem A5d (l : List Int) (x : Int) : Cg (l ++ [x]) = Cg l ||| Cy x := by
 unfold Cg
 rw [List.foldl_append]; rfl
theorem A9n {t : A3} {has : List Int} {loc : Nat} : ∀ k, k ≤ has.length → S5 t has loc k = Cg ((has.take k).filter (M0 t loc))
 | 0, _ => rfl
 | k + 1, h => by
  have e : has.take (k + 1) = has.take k ++ [has.getD k 0] := by
   rw [List.take_succ_eq_append_getElem (show k < has.length by omega), List.getD_eq_getElem?_getD, List.getElem?_eq_getElem (show k < has.length by omega)]; rfl
  rw [S5, A9n k (by omega), e, List.filter_append]
  cases c : M0 t loc (has.getD k 0) with
  | true => rw [if_pos rfl, List.filter_cons_of_pos c, List.filter_nil, A5d]
  | false => rw [if_neg (by decide), List.filter_cons_of_neg (by rw [c]; decide), List.filter_nil, List.append_nil]
theorem Kk : ∀ {L : List (List Int)}, (∀ c ∈ L, ∃ w : Int, c = [w]) → L = L.flatten.map fun w => [w]
 | [], _ => rfl
 | c :: L, h => by
  obtain ⟨w, rfl⟩ := h c (by simp)
  have := Kk (L := L) fun c hc => h c (by simp [hc])
  rw [List.flatten_cons, List.singleton_append, List.map_cons, ← this]
theorem A6R {α β : Type} (p : β → Bool) (f : α → β) (l : List α) : Ci p (l.map f) = Ci (fun x => p (f x)) l := by
 unfold Ci
 rw [List.findIdx?_map]; rfl
theorem A4J {L : List (List Int)} (h : ∀ c ∈ L, ∃ w : Int, c = [w]) (w : Int) : Ci (fun c => Bd c w) L = Eh L.flatten w := by
 conv => lhs; rw [Kk h]
 rw [A6R]
 unfold Eh
 congr 1
 funext y
 simp [Bd]
theorem Wv {L : List (List Int)} (h : ∀ c ∈ L, ∃ w : Int, c = [w]) (w : Int) : (L.filter fun c => Bd c w).length = L.flatten.count w := by
 conv => lhs; rw [Kk h]
 rw [List.filter_map, List.length_map, List.count, List.countP_eq_length_filter]
 congr 2
 funext y
 simp only [Function.comp, Bd, List.any_cons, List.any_nil, Bool.or_false]
 show decide (w = y) = (y == w)
 by_cases c : w = y
 ·rw [decide_eq_true c, c]; simp
 ·rw [decide_eq_false c]; exact (beq_eq_false_iff_ne.2 fun e => c e.symm).symm
section
variable {t : A3} (ht : A8 t) {s : Ad} {mem : List Int} {k : Nat} (W : WI t s mem k)
include W
theorem WI.sing {loc : Nat} (hl : loc < s.mo.length) : ∀ c ∈ s.mo.getD loc [], ∃ w : Int, c = [w] := fun c hc => by
 obtain ⟨w, h, _⟩ := W.one loc hl c hc
 exact ⟨w, h⟩
theorem A9t {loc : Nat} (hl : loc < s.mo.length) : (Es s).mo.getD loc [] = (s.mo.getD loc []).flatten := by
 show (s.mo.map fun l => l.flatten).getD loc [] = _
 rw [List.getD_eq_getElem?_getD, List.getElem?_map, List.getD_eq_getElem?_getD, List.getElem?_eq_getElem hl]; rfl
theorem A0r {loc : Nat} (hl : loc < s.mo.length) {x : Int} : x ∈ (s.mo.getD loc []).flatten ↔ x ∈ s.has.filter (M0 t loc) := by
 rw [List.mem_filter]
 constructor
 ·intro hx
  obtain ⟨c, hc, hx⟩ := List.mem_flatten.1 hx
  obtain ⟨w, rfl, h1, h2, h3⟩ := W.one loc hl c hc
  obtain rfl := List.mem_singleton.1 hx
  refine ⟨h1, ?_⟩
  simp [M0, h2, h3]
 ·rintro ⟨hx, hw⟩
  simp only [M0, Bool.and_eq_true, decide_eq_true_eq] at hw
  have ho := W.form.once x hx hw.1
  rw [hw.2, Int.toNat_natCast, Wv (W.sing hl)] at ho
  exact List.count_pos_iff.1 (by omega)
include ht
theorem Aee {loc : Nat} (hl : loc < s.mo.length) : HE t (Es s) loc = true := by
 have h64 := ht.n64
 have hw := A9n (t := t) (has := s.has) (loc := loc) s.has.length (Nat.le_refl _)
 rw [List.take_length] at hw
 have e1 : Cg (s.mo.getD loc []).flatten = Cg (s.has.filter (M0 t loc)) := by
  have a := Tg (l := (s.mo.getD loc []).flatten) (l' := s.has.filter (M0 t loc)) fun x hx => (A0r W hl).1 hx
  have b := Tg (l := s.has.filter (M0 t loc)) (l' := (s.mo.getD loc []).flatten) fun x hx => (A0r W hl).2 hx
  rw [BitVec.or_comm] at b
  exact b.symm.trans a
 have hnode : Co t (s.mo.getD loc []).flatten := fun x hx => W.form.node x (List.mem_filter.1 ((A0r W hl).1 hx)).1
 have hnd : (s.has.filter (M0 t loc)).Nodup := List.Nodup.sublist List.filter_sublist (W.form.ris.imp fun h => by omega)
 have := (WE h64 hnode hnd (fun x hx => (A0r W hl).1 hx)).2 (fun n hn => by
  obtain ⟨h1, h2⟩ := List.mem_filter.1 hn
  simp only [M0, Bool.and_eq_true, decide_eq_true_eq] at h2
  have ho := W.form.once n h1 h2.1
  rwa [h2.2, Int.toNat_natCast, Wv (W.sing hl)] at ho)
 have hh : (Es s).has = s.has := rfl
 rw [HE, A9t W hl, hh, hw, ← e1, Bool.and_eq_true, decide_eq_true_eq, decide_eq_true_eq]
 exact ⟨by omega, rfl⟩
theorem Adz : isX t (Es s) = true := by
 have hml : (Es s).mo.length = s.mo.length := by simp [Es]
 rw [isX, A5n, Bool.and_eq_true, Bool.and_eq_true, decide_eq_true_eq, hml]
 exact ⟨Hw (EX.2 W.form), W.form.ml, AR fun loc hl => Aee ht W hl⟩
theorem A57 {n : Nat} (hn : (n : Int) ∈ s.has) (hnl : n < t.nodes.length) (hk : (t.at n).kind = 2 ∨ (t.at n).kind = 3) : xPl t (Es s) n = Zf t s n := by
 have hloc := ht.wloc hnl hk
 obtain ⟨loc, hlo⟩ := Int.eq_ofNat_of_zero_le hloc.1
 have hml := W.form.ml
 have hl : loc < s.mo.length := by omega
 have hw : (if (t.at n).kind = 2 then (Es s).rf.getD (Eh (Es s).has n).toNat 0 else (n : Int)) = (if (t.at n).kind = 2 then UK s n else (n : Int)) := by
  obtain ⟨i, hi, hil, _⟩ := DF (A7.2 hn)
  have hjl := W.form.jl
  have e1 : (Es s).rf.getD (Eh (Es s).has n).toNat 0 = UK s n := by
   show s.jf.getD (Eh s.has n).toNat 0 = _
   rw [UK, hi, if_neg (by omega)]
  rw [e1]
 rw [xPl, Int.toNat_natCast, if_neg (by omega), hw, Zf, Int.toNat_natCast, hlo, Int.toNat_natCast, A9t W hl, Bt, Int.toNat_natCast]
 rw [if_neg (show ¬ ((loc : Int) < 0 ∨ (s.mo.length : Int) ≤ loc) by omega)]
 exact (A4J (W.sing hl) _).symm
theorem AdY : A2a t (Es s) = true := by
 have h64 := ht.n64
 have hc := W.coh
 rw [PU, Bool.and_eq_true, List.all_eq_true] at hc
 obtain ⟨hf, hp⟩ := hc
 have hF := Gd (Hw hf)
 have good : ∀ a b : Nat, a ≠ b → Ll (Lm t s.has s.jf) t.nodes.length a b → DO t s a b = true := fun a b _ hpt =>
  hp _ ((E0 h64 _ _).2 ⟨a, b, by have := hpt.lt; have := (Uo ht hF hpt).1; obtain ⟨m, e, hm⟩ := Aj (hF.node _ this); omega, rfl, hpt⟩)
 have hl : (Ns t s.has s.jf).length = t.nodes.length := Eg h64 _
 have hring : V9 (Ns t s.has s.jf) = true := AR fun i hi => by
  rw [hl] at hi
  cases c : BR ((Ns t s.has s.jf).getD i 0#64) (i : Int) with
  | false => rfl
  | true =>
   rw [B0] at c
   exact absurd ((LO h64 _ hi).1 c) (A7O ht hF.len hF good i)
 rw [A2a, Adz ht W, Bool.true_and]
 show (V9 (Ns t s.has s.jf) && (BH (Ns t s.has s.jf)).all _) = true
 rw [hring, Bool.true_and, List.all_eq_true]
 intro x hx
 have hpx := hp x hx
 obtain ⟨a, b, ha, rfl, hpt⟩ := (E0 h64 _ _).1 hx
 obtain ⟨ma, mb⟩ := Uo ht hF hpt
 simp only [DO, DG, Int.toNat_natCast, Bool.or_eq_true] at hpx ⊢
 rcases hpx with h | h
 ·exact .inl h
 ·by_cases ka : (t.at a).kind = 2 ∨ (t.at a).kind = 3
  ·by_cases kb : (t.at b).kind = 2 ∨ (t.at b).kind = 3
   ·refine .inr ?_
    rw [A57 ht W ma ha ka, A57 ht W mb hpt.lt kb]; exact h
   ·refine .inl (.inl (.inr ?_))
    rw [decide_eq_false (fun h => kb (.inl h)), decide_eq_false (fun h => kb (.inr h))]; rfl
  ·refine .inl (.inl (.inl ?_))
   rw [decide_eq_false (fun h => ka (.inl h)), decide_eq_false (fun h => ka (.inr h))]; rfl
omit W in
theorem AdI (W : WI t s mem k) : SzE (Es s) := by
 have hs := W.gr.sz ht (by have := W.k64 ht; omega)
 have hml : (Es s).mo.length = s.mo.length := by simp [Es]
 refine ⟨hs.has, hs.jf, by rw [hml]; exact hs.mo, fun l hl => ?_⟩
 obtain ⟨m, hm, rfl⟩ := List.mem_map.1 hl
 obtain ⟨i, hi, rfl⟩ := List.getElem_of_mem hm
 have hd : s.mo[i] = s.mo.getD i [] := by rw [List.getD_eq_getElem?_getD, List.getElem?_eq_getElem hi]; rfl
 have hsing := W.sing hi
 rw [← hd] at hsing
 have hh := congrArg List.length (Kk hsing)
 rw [List.length_map] at hh
 rw [← hh]
 exact hs.mi _ hm
end
end Go.AM

namespace Go.AM
open Go Go.Proofs
section
variable {V : Al} (C : AB V)
include C
set_option maxHeartbeats 4000000 in
theorem QN (t : A3) (ht : A8 t) (l : List U8) (hl : l.length ≤ 1000 ∧ ∀ x ∈ l, x.n < 256) : VP V A5k [vT t, lU l] fun v => ∃ s mem k at_, v = .tu [ML s, .b true, lI mem] ∧ WI t s mem k ∧ StI t s at_ ∧ ∀ u ∈ at_, GK t u mem = none := by
 rw [A9 C.c_z5.1 C.c_z5.2]
 simp only [AbC, A4I, go_sem, ↓reduceIte]
 refine Sa C t ht l hl (fun s mem k at_ W S h => ?_)
 simp only [A4I, go_sem, ↓reduceIte]
 exact ⟨s, mem, rfl, k, W, at_, S, h⟩
theorem QT (t : A3) (ht : A8 t) (l : List U8) (hl : l.length ≤ 1000 ∧ ∀ x ∈ l, x.n < 256) : VP V A5k [vT t, lU l] fun v => ∃ s mem k, v = .tu [ML s, .b true, lI mem] ∧ WI t s mem k :=
 (QN C t ht l hl).mono fun _ ⟨s, mem, k, _, h, W, _⟩ => ⟨s, mem, k, h, W⟩
set_option maxRecDepth 4000 in
set_option maxHeartbeats 8000000 in
theorem law_CoheWalked (hb : ∀ Q : VV → Prop, VP V A3Z [] Q ↔ Q (.b true)) (l m : List U8) (hl : ∀ x ∈ l, x.n < 256) (hm : ∀ x ∈ m, x.n < 256) :
  VP V A7H [lU l, lU m] fun x => x = .b true := by
 rw [A9 C.c_z0.1 C.c_z0.2]
 by_cases c1 : (30 : Int) < l.length
 ·simp only [A3d, XS, go_sem, ↓reduceIte, hb, c1]
 by_cases c2 : (40 : Int) < m.length
 ·simp only [A3d, XS, go_sem, ↓reduceIte, hb, c1, c2]
 obtain ⟨_, ⟨t, ok, rfl, ht⟩, qT⟩ := Da (Ty C l ⟨by omega, hl⟩)
 cases ok with
 | false => simp only [A3d, XS, go_sem, ↓reduceIte, hb, c1, c2, qT]
 | true =>
 have ht := (ht rfl).1
 obtain ⟨_, ⟨s, mem, k, rfl, W⟩, qW⟩ := Da (QT C t ht m ⟨by omega, hm⟩)
 have hs := W.gr.sz ht (by have := W.k64 ht; omega)
 have qE := fun (Q : VV → Prop) => Vq C s hs (fun l hl c hc => by
  obtain ⟨i, hi, rfl⟩ := List.getElem_of_mem hl
  have hd : s.mo[i] = s.mo.getD i [] := by rw [List.getD_eq_getElem?_getD, List.getElem?_eq_getElem hi]; rfl
  rw [hd] at hc
  exact W.sing hi c hc) (Q := Q)
 have qX := fun (Q : VV → Prop) => V5 C t ht (Es s) (AdI ht W) (Q := Q)
 rw [AdY ht W] at qX
 simp only [A3d, XS, go_sem, ↓reduceIte, hb, c1, c2, qT, qW, qE, qX, SC C t ht s hs, W.coh]
end
end Go.AM
