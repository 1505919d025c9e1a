/-
  Own work, part of the proof of CoheWalked: plain models of what functions compute.
-/
import Derived.Test.YtpcpldaangchaaaGreatDoorAmE
set_option maxRecDepth 4000
set_option linter.unusedVariables false
set_option linter.unusedSimpArgs false
set_option linter.unusedSectionVars false
set_option linter.unnecessarySimpa false
namespace Go.AM
open Go Go.Proofs
def Cg (xs : List Int) : BitVec 64 := xs.foldl (fun s i => s ||| Cy i) 0#64
/-- The set of the numbers from lo on and below hi. -/
def Eu (lo hi : Int) : BitVec 64 := BA fun i => decide (lo ≤ (i : Int) ∧ (i : Int) < hi)
def AK (s : BitVec 64) : List Int := (Bx s).map fun (i : Nat) => (i : Int)
/-- The first of a list that is so; -1: none. -/
def Ci {α : Type} (p : α → Bool) (xs : List α) : Int := match xs.findIdx? p with
 | some i => i
 | none => -1
theorem D4 {α : Type} {p : α → Bool} {xs : List α} {k : Nat} (hk : k < xs.length) (h1 : p xs[k] = true) (h2 : ∀ (j : Nat) (hj : j < k), p xs[j] = false) : Ci p xs = k := by
 unfold Ci
 rw [List.findIdx?_eq_some_iff_getElem.2 ⟨hk, h1, fun j hj => by simp [h2 j hj]⟩]
theorem Dp {α : Type} {p : α → Bool} {xs : List α} (h : ∀ x ∈ xs, p x = false) : Ci p xs = -1 := by
 unfold Ci
 rw [List.findIdx?_eq_none_iff.2 h]
theorem Ki {α : Type} (p : α → Bool) (xs : List α) : decide (0 ≤ Ci p xs) = xs.any p := by
 unfold Ci
 cases h : xs.findIdx? p with
 | none => rw [List.findIdx?_eq_none_iff] at h; simp; exact h
 | some i =>
  obtain ⟨hi, h1, _⟩ := List.findIdx?_eq_some_iff_getElem.1 h
  simp
  exact ⟨_, List.getElem_mem hi, h1⟩
abbrev Rows := List (BitVec 64)
def DQ (r : Rows) : Bool := decide (r.length ≤ 64) && r.all fun x => decide (x &&& ~~~(Eu 0 r.length) = 0#64)
/-- Those that some one of a set is before. -/
def DU (a : Rows) (s : BitVec 64) : BitVec 64 := (Bx (s &&& Eu 0 a.length)).foldl (fun x i => x ||| a.getD i 0#64) 0#64
def Jt (a : Rows) : Nat → BitVec 64 → BitVec 64
 | 0, s => s
 | n + 1, s => if s ||| DU a s = s then s else Jt a n (s ||| DU a s)
theorem LW {s x : BitVec 64} (h : s ||| x ≠ s) : s.toNat < (s ||| x).toNat := by
 have h1 : s.toNat ≤ (s ||| x).toNat := by rw [BitVec.toNat_or]; exact Nat.left_le_or
 rcases Nat.lt_or_ge s.toNat (s ||| x).toNat with h2 | h2
 ·exact h2
 ·exact absurd (BitVec.eq_of_toNat_eq (by omega)) h
theorem Zq (a : Rows) : ∀ (n : Nat) (s : BitVec 64), 18446744073709551616 - s.toNat ≤ n → Jt a (n + 1) s = Jt a n s := by
 intro n
 induction n with
 | zero => intro s h; have := s.isLt; omega
 | succ n ih =>
  intro s h
  rw [Jt]
  by_cases e : s ||| DU a s = s
  ·rw [if_pos e]; rw [Jt, if_pos e]
  ·rw [if_neg e]
   have := LW e
   rw [ih _ (by omega), Jt, if_neg e]
/-- What comes of a set, step by step. -/
def K0 (a : Rows) (s : BitVec 64) : BitVec 64 := Jt a 18446744073709551616 s
theorem Zm (a : Rows) (s : BitVec 64) : K0 a s = if s ||| DU a s = s then s else K0 a (s ||| DU a s) := by
 have h0 : K0 a s = Jt a (18446744073709551615 + 1) s := rfl
 rw [h0, Jt]
 by_cases e : s ||| DU a s = s
 ·rw [if_pos e, if_pos e]
 ·rw [if_neg e, if_neg e]
  have := LW e
  exact (Zq a 18446744073709551615 _ (by omega)).symm
def GL (a : Rows) : Rows := if DQ a then (List.range a.length).map (fun i => K0 a (a.getD i 0#64)) else []
def VY (a : Rows) (s : BitVec 64) : Rows := if DQ a then (List.range a.length).map (fun (i : Nat) => if BR s (i : Int) then a.getD i 0#64 &&& s else 0#64) else []
theorem A8j {a : Rows} {i : Nat} (h : i < a.length) : a.getD i 0#64 = a[i] := by
 simp only [List.getD_eq_getElem?_getD, List.getElem?_eq_getElem h, Option.getD_some]
theorem M6 {a : Rows} (h : DQ a = true) : a.length ≤ 64 := by simp only [DQ, Bool.and_eq_true, decide_eq_true_eq] at h; exact h.1
def BH (a : Rows) : List (Int × Int) := if DQ a then (List.range a.length).flatMap (fun i => (AK (a.getD i 0#64)).map fun j => ((i : Int), j)) else []
theorem Dw (s : BitVec 64) : (AK s).length ≤ 64 := by
 simp only [AK, List.length_map]
 unfold Bx
 exact Nat.le_trans (List.length_filter_le _ _) (by simp)
theorem MH (a : Rows) : ∀ k, ((List.range k).flatMap (fun i => (AK (a.getD i 0#64)).map fun j => ((i : Int), j))).length ≤ 64 * k := by
 intro k
 induction k with
 | zero => simp
 | succ k ih =>
  rw [List.range_succ, List.flatMap_append, List.length_append]
  have := Dw (a.getD k 0#64)
  simp only [List.flatMap_cons, List.flatMap_nil, List.append_nil, List.length_map]
  omega
def Sub (s t : BitVec 64) : Prop := ∀ j, s.getLsbD j = true → t.getLsbD j = true
def A27 (a : Rows) (t : BitVec 64) : Prop := ∀ y, y < a.length → t.getLsbD y = true → Sub (a.getD y 0#64) t
structure Qo (a : Rows) (s t : BitVec 64) : Prop where
 sub : Sub s t
 closed : A27 a t
 least : ∀ u, Sub s u → A27 a u → Sub t u
theorem Sub.anti {s t : BitVec 64} (h : Sub s t) (k : Sub t s) : s = t := by
 apply C1
 intro j _
 cases hs : s.getLsbD j with
 | true => exact (h j hs).symm
 | false =>
  cases ht : t.getLsbD j with
  | false => rfl
  | true => rw [k j ht] at hs; cases hs
theorem Qo.uniq {a : Rows} {s t u : BitVec 64} (h : Qo a s t) (k : Qo a s u) : t = u := Sub.anti (h.least u k.sub k.closed) (k.least t h.sub h.closed)
theorem UC {α : Type} (f : α → BitVec 64) (j : Nat) : ∀ (l : List α) (x : BitVec 64), (l.foldl (fun x i => x ||| f i) x).getLsbD j = (x.getLsbD j || l.any fun i => (f i).getLsbD j)
 | [], x => by simp
 | i :: l, x => by rw [List.foldl_cons, UC f j l, BitVec.getLsbD_or, List.any_cons, Bool.or_assoc]
theorem Rp {a : Rows} (hl : a.length ≤ 64) (s : BitVec 64) (j : Nat) : (DU a s).getLsbD j = true ↔ ∃ i, i < a.length ∧ s.getLsbD i = true ∧ (a.getD i 0#64).getLsbD j = true := by
 unfold DU
 rw [UC]
 simp only [BitVec.getLsbD_zero, Bool.false_or, List.any_eq_true, Kd, BitVec.getLsbD_and, Bool.and_eq_true, Eu, AA, decide_eq_true_eq]
 constructor
 ·rintro ⟨i, ⟨h1, h2, h3⟩, h4⟩
  exact ⟨i, by omega, h1, h4⟩
 ·rintro ⟨i, h1, h2, h3⟩
  exact ⟨i, ⟨h2, by omega, by omega⟩, h3⟩
theorem A3X {a : Rows} (hl : a.length ≤ 64) : ∀ (n : Nat) (s : BitVec 64), 18446744073709551616 - s.toNat ≤ n → Qo a s (Jt a n s) := by
 intro n
 induction n with
 | zero => intro s h; have := s.isLt; omega
 | succ n ih =>
  intro s h
  rw [Jt]
  by_cases e : s ||| DU a s = s
  ·rw [if_pos e]
   refine ⟨fun j h => h, fun y hy hs j hj => ?_, fun u hu _ => hu⟩
   have : (DU a s).getLsbD j = true := (Rp hl s j).2 ⟨y, hy, hs, hj⟩
   rw [← e, BitVec.getLsbD_or, this, Bool.or_true]
  ·rw [if_neg e]
   have hg := LW e
   obtain ⟨h1, h2, h3⟩ := ih (s ||| DU a s) (by omega)
   refine ⟨fun j hj => h1 j (by rw [BitVec.getLsbD_or, hj, Bool.true_or]), h2, fun u hu hc => h3 u (fun j hj => ?_) hc⟩
   rw [BitVec.getLsbD_or, Bool.or_eq_true] at hj
   rcases hj with hj | hj
   ·exact hu j hj
   ·obtain ⟨i, hi, hs, hij⟩ := (Rp hl s j).1 hj
    exact hc i hi (hu i hs) j hij
theorem ZJ {a : Rows} (hl : a.length ≤ 64) (s : BitVec 64) : Qo a s (K0 a s) := A3X hl _ s (by omega)
theorem AbJ (s t : BitVec 64) : (s ||| t = t) ↔ Sub s t := by
 constructor
 ·intro h j hj
  rw [← h, BitVec.getLsbD_or, hj, Bool.true_or]
 ·intro h
  apply C1
  intro j _
  rw [BitVec.getLsbD_or]
  cases hs : s.getLsbD j with
  | true => rw [h j hs]; rfl
  | false => simp
def orF (a b : Rows) : Rows := if DQ a && DQ b && decide (a.length = b.length) then (List.range a.length).map (fun i => a.getD i 0#64 ||| b.getD i 0#64) else []
/-- What has been reckoned of a list of so many, up to k. -/
def CH {α : Type} (n k : Nat) (f : Nat → α) (z : α) : List α := (List.range n).map fun j => if j < k then f j else z
theorem Pe {α : Type} {n k : Nat} {f : Nat → α} {z : α} : (CH n k f z).length = n := by simp [CH]
theorem JO {α : Type} {n k : Nat} {f : Nat → α} {z : α} (h : k < n) : (CH n k f z)[k]? = some z := by
 unfold CH
 rw [List.getElem?_map, List.getElem?_range h]
 simp
theorem M7 {α β : Type} {n k : Nat} {f : Nat → α} {z : α} (g : α → β) : ((CH n k f z).map g).set k (g (f k)) = (CH n (k + 1) f z).map g := by
 apply List.ext_getElem
 ·simp [CH]
 ·intro j h1 h2
  simp only [CH, List.getElem_set, List.getElem_map, List.getElem_range]
  by_cases e : k = j
  ·subst e; simp
  ·have : (j < k + 1) ↔ (j < k) := by omega
   simp [e, this]
theorem ER {α : Type} {n : Nat} {f : Nat → α} {z : α} : CH n 0 f z = List.replicate n z := by
 apply List.ext_getElem
 ·simp [CH]
 ·intro j h1 h2; simp [CH]
theorem Hm {α : Type} {n : Nat} {f : Nat → α} {z : α} : CH n n f z = (List.range n).map f := by
 apply List.map_congr_left
 intro j hj
 rw [if_pos (List.mem_range.1 hj)]
end Go.AM

namespace Go.AM
open Go Go.Proofs
def Aw.zero : Aw := ⟨0, 0, 0, 0, 0, 0, false, false, []⟩
/-- The node of a number. -/
def A3.at (t : A3) (i : Nat) : Aw := t.nodes.getD i Aw.zero
/-- What a node stands beneath has a smaller number. -/
def K5 (t : A3) : Prop := ∀ i, i < t.nodes.length → (t.at i).up < i
/-- Is a met, going up? -/
def Ku (t : A3) (a : Int) : Nat → Int → Bool
 | 0, _ => false
 | n + 1, x => if x < 0 then false else if x = a then true else Ku t a n (t.at x.toNat).up
theorem RF {t : A3} (h : K5 t) (a : Int) : ∀ (n : Nat) (x : Int), x < n → x < t.nodes.length → Ku t a (n + 1) x = Ku t a n x := by
 intro n
 induction n with
 | zero =>
  intro x hx _
  show (if x < 0 then false else if x = a then true else Ku t a 0 (t.at x.toNat).up) = false
  rw [if_pos (by omega)]
 | succ n ih =>
  intro x hx hl
  rw [Ku]
  by_cases h0 : x < 0
  ·rw [if_pos h0, Ku, if_pos h0]
  ·rw [if_neg h0]
   conv => rhs; rw [Ku, if_neg h0]
   by_cases h1 : x = a
   ·rw [if_pos h1, if_pos h1]
   ·rw [if_neg h1, if_neg h1]
    have := h x.toNat (by omega)
    exact ih _ (by omega) (by omega)
/-- Is b beneath a? -/
def AE (t : A3) (a : Int) (b : Nat) : Bool := Ku t a t.nodes.length (t.at b).up
theorem Adm {t : A3} {i : Nat} (h : i < t.nodes.length) : t.at i = t.nodes[i] := by
 simp only [A3.at, List.getD_eq_getElem?_getD, List.getElem?_eq_getElem h, Option.getD_some]
theorem A5 {t : A3} {i : Nat} (h : i < t.nodes.length) : t.nodes[i]? = some (t.at i) := by rw [Adm h, List.getElem?_eq_getElem h]
def BY (t : A3) (n : Int) : Bool := decide (0 ≤ n) && decide (n < t.nodes.length)
theorem Aj {t : A3} {n : Int} (h : BY t n = true) : ∃ m : Nat, n = (m : Int) ∧ m < t.nodes.length := by
 simp only [BY, Bool.and_eq_true, decide_eq_true_eq] at h
 obtain ⟨m, rfl⟩ := Int.eq_ofNat_of_zero_le h.1
 exact ⟨m, rfl, by omega⟩
theorem Ck {t : A3} {m : Nat} (h : m < t.nodes.length) : BY t (m : Int) = true := by
 simp only [BY, Bool.and_eq_true, decide_eq_true_eq]
 omega
/-- Does a come ahead of b? -/
def AD (t : A3) (a b : Int) : Bool := BY t a && BY t b && (if (t.at a.toNat).thread < 0 then decide (0 ≤ (t.at b.toNat).thread) else AE t a b.toNat)
def Bn (t : A3) (a b : Int) : Bool := BY t a && BY t b && !decide (a = b) && decide (0 ≤ (t.at a.toNat).thread) && decide ((t.at a.toNat).thread = (t.at b.toNat).thread) && !AE t a b.toNat && !AE t b a.toNat
def Cu (n : Aw) : Bool := decide (0 ≤ n.thread) && decide (n.kind = 3) && decide (n.mode = 0) && !n.rmw
def LV (n : Aw) : Bool := (decide (n.kind = 2) || decide (n.kind = 4)) && (decide (n.mode = 1) || decide (n.mode = 3) || decide (n.mode = 4))
def M3 (n : Aw) : Bool := (decide (n.kind = 3) && decide (0 ≤ n.thread) || decide (n.kind = 4)) && (decide (n.mode = 2) || decide (n.mode = 3) || decide (n.mode = 4))
end Go.AM

namespace Go.AM
open Go Go.Proofs
theorem AR {n : Nat} {p : Nat → Bool} (h : ∀ j, j < n → p j = true) : (List.range n).all p = true := by
 rw [List.all_eq_true]
 intro j hj
 exact h j (List.mem_range.1 hj)
theorem AY {n k : Nat} {p : Nat → Bool} (hk : k < n) (h : p k = false) : (List.range n).all p = false := by
 rw [List.all_eq_false]
 exact ⟨k, List.mem_range.2 hk, by simp [h]⟩
theorem Am {n : Nat} {p : Nat → Bool} : (List.range n).all p = true ↔ ∀ j, j < n → p j = true := by
 rw [List.all_eq_true]
 exact ⟨fun h j hj => h j (List.mem_range.2 hj), fun h j hj => h j (List.mem_range.1 hj)⟩
theorem UQ {n k : Nat} {p : Nat → Bool} (hk : k < n) (h : p k = true) : (List.range n).any p = true := by
 rw [List.any_eq_true]
 exact ⟨k, List.mem_range.2 hk, h⟩
theorem Au {xs : List Int} {k : Nat} (h : k < xs.length) : xs[k]? = some (xs.getD k 0) := by
 rw [List.getD_eq_getElem?_getD, List.getElem?_eq_getElem h]; rfl
theorem GN {xs : List (List Int)} {k : Nat} (h : k < xs.length) : xs[k]? = some (xs.getD k []) := by
 rw [List.getD_eq_getElem?_getD, List.getElem?_eq_getElem h]; rfl
theorem CG {xs : List (List (List Int))} {k : Nat} (h : k < xs.length) : xs[k]? = some (xs.getD k []) := by
 rw [List.getD_eq_getElem?_getD, List.getElem?_eq_getElem h]; rfl
theorem Aq {α : Type} {xs : List α} {k : Nat} {d : α} (h : k < xs.length) : xs.getD k d ∈ xs := by
 rw [List.getD_eq_getElem?_getD, List.getElem?_eq_getElem h]
 exact List.getElem_mem h
def Bd (l : List Int) (n : Int) : Bool := l.any fun y => decide (n = y)
theorem A7 {l : List Int} {n : Int} : Bd l n = true ↔ n ∈ l := by
 unfold Bd
 rw [List.any_eq_true]
 constructor
 ·rintro ⟨x, hx, e⟩; rw [of_decide_eq_true e]; exact hx
 ·intro h; exact ⟨n, h, by simp⟩
def Eh (l : List Int) (n : Int) : Int := Ci (fun y => decide (n = y)) l
theorem Ke (l : List Int) (n : Int) : decide (0 ≤ Eh l n) = Bd l n := Ki _ _
theorem CK (l : List Int) (n : Int) : decide (Eh l n < 0) = !Bd l n := by
 rw [← Ke]
 by_cases h : 0 ≤ Eh l n
 ·have : ¬ Eh l n < 0 := by omega
  simp [h, this]
 ·have : Eh l n < 0 := by omega
  simp [h, this]
theorem Js {α : Type} {p : α → Bool} {l : List α} (h : l.any p = true) : ∃ k : Nat, Ci p l = k ∧ ∃ hk : k < l.length, p l[k] = true ∧ ∀ (j : Nat) (hj : j < k), p (l[j]'(by omega)) = false := by
 unfold Ci
 cases e : l.findIdx? p with
 | none =>
  rw [List.findIdx?_eq_none_iff] at e
  rw [List.any_eq_true] at h
  obtain ⟨x, hx, hp⟩ := h
  rw [e x hx] at hp; cases hp
 | some i =>
  obtain ⟨hi, h1, h2⟩ := List.findIdx?_eq_some_iff_getElem.1 e
  exact ⟨i, rfl, hi, h1, fun j hj => by simpa using h2 j hj⟩
theorem Qw {α : Type} {p : α → Bool} {l : List α} (h : l.any p = false) : Ci p l = -1 := by
 apply Dp
 intro x hx
 rw [List.any_eq_false] at h
 simpa using h x hx
theorem DF {l : List Int} {n : Int} (h : Bd l n = true) : ∃ k : Nat, Eh l n = k ∧ k < l.length ∧ l.getD k 0 = n ∧ ∀ j, j < k → l.getD j 0 ≠ n := by
 obtain ⟨k, e, hk, h1, h2⟩ := Js h
 refine ⟨k, e, hk, ?_, fun j hj => ?_⟩
 ·rw [List.getD_eq_getElem?_getD, List.getElem?_eq_getElem hk]
  exact (of_decide_eq_true h1).symm
 ·have := h2 j hj
  rw [List.getD_eq_getElem?_getD, List.getElem?_eq_getElem (by omega)]
  intro e; rw [Option.getD_some] at e; rw [e] at this; simp at this
theorem A67 {l : List Int} {n : Int} (h : Bd l n = false) : Eh l n = -1 := Qw h
/-- Is it more than the one ahead of it? -/
def Cs (l : List Int) (k : Nat) : Bool := decide (k = 0) || decide (l.getD (k - 1) 0 < l.getD k 0)
def GY (t : A3) : BitVec 64 := BA fun i => decide (i < t.nodes.length) && decide ((t.at i).up < 0)
def BL (t : A3) (l : List Int) (k : Nat) : Bool := BY t (l.getD k 0) && Cs l k && (decide ((t.at (l.getD k 0).toNat).up < 0) || Bd l (t.at (l.getD k 0).toNat).up)
def BO (t : A3) (l : List Int) : Bool := (List.range l.length).all (BL t l) && decide (GY t ||| Cg l = Cg l)
def AG (t : A3) (x y : Int) : Bool := Cu (t.at x.toNat) && Cu (t.at y.toNat) && decide ((t.at x.toNat).val = (t.at y.toNat).val) && Bn t x y
def Hx (t : A3) (n loc : Int) : Bool := decide ((t.at n.toNat).kind = 3) && decide ((t.at n.toNat).loc = loc)
def Bl (t : A3) (l has : List Int) (loc : Int) (i : Nat) : Bool := Bd has (l.getD i 0) && Cs l i && Hx t (l.getD i 0) loc && decide (0 ≤ (t.at (l.getD i 0).toNat).thread) && (List.range i).all fun k => AG t (l.getD i 0) (l.getD k 0)
def Cc (t : A3) (l has : List Int) (loc : Int) : Bool := !decide (l.length = 0) && (List.range l.length).all (Bl t l has loc)
def EW (t : A3) (s : Ad) (i : Nat) : Bool :=
 if (t.at (s.has.getD i 0).toNat).kind = 2 then Bd s.has (s.jf.getD i 0) && Hx t (s.jf.getD i 0) (t.at (s.has.getD i 0).toNat).loc && decide ((t.at (s.jf.getD i 0).toNat).val = (t.at (s.has.getD i 0).toNat).val) else decide (s.jf.getD i 0 = -1)
def DR (t : A3) (s : Ad) (loc : Nat) : Bool :=
 let m := s.mo.getD loc []
 !decide (m.length = 0) && decide (m.getD 0 [] = [(loc : Int)]) && (List.range m.length).all fun i => decide (i = 0) || Cc t (m.getD i []) s.has loc
def JH (t : A3) (s : Ad) (i : Nat) : Bool :=
 !decide ((t.at (s.has.getD i 0).toNat).kind = 3) || decide (((s.mo.getD (t.at (s.has.getD i 0).toNat).loc.toNat []).filter fun c => Bd c (s.has.getD i 0)).length = 1)
def BX (t : A3) (s : Ad) : Bool := BO t s.has && decide (s.jf.length = s.has.length) && decide (s.mo.length = t.locs.length) && (List.range s.has.length).all (EW t s) && (List.range s.mo.length).all (DR t s) && (List.range s.has.length).all (JH t s)
/-- Sizes that fit. -/
structure N7 (s : Ad) : Prop where
 has : s.has.length ≤ 1000
 jf : s.jf.length ≤ 1000
 mo : s.mo.length ≤ 1000
 mi : ∀ l ∈ s.mo, l.length ≤ 1000
 mc : ∀ l ∈ s.mo, ∀ c ∈ l, c.length ≤ 1000
theorem N7.mi' {s : Ad} (h : N7 s) (k : Nat) : (s.mo.getD k []).length ≤ 1000 := by
 by_cases hk : k < s.mo.length
 ·exact h.mi _ (Aq hk)
 ·rw [List.getD_eq_getElem?_getD, List.getElem?_eq_none (by omega)]; simp
theorem N7.mc' {s : Ad} (h : N7 s) (k j : Nat) : ((s.mo.getD k []).getD j []).length ≤ 1000 := by
 by_cases hk : k < s.mo.length
 ·by_cases hj : j < (s.mo.getD k []).length
  ·exact h.mc _ (Aq hk) _ (Aq hj)
  ·rw [List.getD_eq_getElem?_getD, List.getElem?_eq_none (by omega)]; simp
 ·rw [List.getD_eq_getElem?_getD, List.getElem?_eq_none (by rw [List.getD_eq_getElem?_getD, List.getElem?_eq_none (by omega)]; simp)]; simp
def UK (s : Ad) (n : Int) : Int := if Eh s.has n < 0 ∨ (s.jf.length : Int) ≤ Eh s.has n then -1 else s.jf.getD (Eh s.has n).toNat 0
def Bt (s : Ad) (loc w : Int) : Int := if loc < 0 ∨ (s.mo.length : Int) ≤ loc then -1 else Ci (fun c => Bd c w) (s.mo.getD loc.toNat [])
def DG (a b : Aw) (pa pb : Int) : Bool :=
 (!(decide (a.kind = 2) || decide (a.kind = 3)) || !(decide (b.kind = 2) || decide (b.kind = 3)) || !decide (a.loc = b.loc)) || (if b.kind = 2 then decide (pa ≤ pb) else decide (pa < pb))
end Go.AM

namespace Go.AM
open Go Go.Proofs
/-- Does the node at come next, right beneath another one, of its thread? -/
def BF (t : A3) (a u : Nat) : Bool := decide (a < t.nodes.length) && decide ((t.at a).up = u) && decide ((t.at a).thread = (t.at u).thread)
def Hv (t : A3) (v : Int) : Bool := decide (0 ≤ v) && decide (v < t.vals)
def Jv (t : A3) (v : Int) : Bool := decide (0 ≤ v) && decide (v < t.locs.length)
def A0x (t : A3) (u : Nat) : Bool := (t.at u).fin && decide ((t.at u).regs.length = (t.regs.getD (t.at u).thread.toNat []).length) && (t.at u).regs.all (Hv t)
/-- May a node that is no read stand beneath u, all by itself? -/
def D3 (t : A3) (u : Nat) : Bool :=
 let n := t.at (u + 1); let m := t.at u
 (decide (n.kind = 4) && decide (n.loc = 0) && decide (n.val = 0) && !n.rmw && decide (1 ≤ n.mode) && decide (n.mode ≤ 4)) ||
 (decide (n.kind = 3) && Jv t n.loc && Hv t n.val &&
  (if n.rmw then decide (0 ≤ n.mode) && decide (n.mode ≤ 4) && decide (m.kind = 2) && decide (m.loc = n.loc) && decide (m.mode = n.mode) else decide (n.mode = 0) || decide (n.mode = 2) || decide (n.mode = 4)))
def Er (t : A3) (u : Nat) : Bool := decide (u + 1 < t.nodes.length) && decide ((t.at (u + 1)).up = u) && (t.at (u + 1)).rmw
/-- What a read beside others must be. -/
def E7 (t : A3) (a v : Nat) (loc mode : Int) : Bool := decide ((t.at a).kind = 2) && decide ((t.at a).val = v) && decide ((t.at a).loc = loc) && decide ((t.at a).mode = mode) && !(t.at a).rmw
def Aa3 (t : A3) (u : Nat) : Prop := u < t.nodes.length ∧ 0 ≤ (t.at u).thread ∧ (t.at u).thread < t.regs.length
/-- From u + 1 up to e stands what is beneath u. -/
def Jc (t : A3) : Nat → Nat → Nat → Prop
 | 0, _, _ => False
 | n + 1, u, e => Aa3 t u ∧ (
  (BF t (u + 1) u = false ∧ A0x t u = true ∧ e = u + 1) ∨
  (BF t (u + 1) u = true ∧ (t.at u).fin = false ∧ (t.at u).regs = [] ∧ D3 t u = true ∧ Jc t n (u + 1) e) ∨
  (BF t (u + 1) u = true ∧ (t.at u).fin = false ∧ (t.at u).regs = [] ∧ ∃ (vals : Nat) (k : Nat → Nat) (loc mode : Int), t.vals = vals ∧ 0 < vals ∧ k 0 = u + 1 ∧ k vals = e ∧ Jv t loc = true ∧
   (∀ v, v < vals → BF t (k v) u = true ∧ E7 t (k v) v loc mode = true ∧ Jc t n (k v) (k (v + 1))) ∧
   ((mode = 0 ∨ mode = 1 ∨ mode = 4) ∨ (0 ≤ mode ∧ mode ≤ 4 ∧ ∃ v, v < vals ∧ Er t (k v) = true))))
/-- A location's first write. -/
def HK (t : A3) (i : Nat) : Bool := decide ((t.at i).thread = -1) && decide ((t.at i).up = -1) && decide ((t.at i).kind = 3) && decide ((t.at i).loc = i) && decide ((t.at i).mode = 0) && Hv t (t.at i).val && !(t.at i).rmw && !(t.at i).fin && decide ((t.at i).regs = [])
def Ec (t : A3) (u i : Nat) : Bool := decide ((t.at u).thread = i) && decide ((t.at u).up = -1) && decide ((t.at u).kind = 1) && decide ((t.at u).loc = 0) && decide ((t.at u).mode = 0) && decide ((t.at u).val = 0) && !(t.at u).rmw
structure A8 (t : A3) : Prop where
 v2 : 2 ≤ t.vals
 v4 : t.vals ≤ 4
 l4 : t.locs.length ≤ 4
 ln : t.locs.Nodup
 n64 : t.nodes.length ≤ 64
 r1 : 1 ≤ t.regs.length
 r4 : t.regs.length ≤ 4
 rl : ∀ l ∈ t.regs, l.length ≤ 4 ∧ l.Nodup
 first : t.locs.length ≤ t.nodes.length ∧ ∀ i, i < t.locs.length → HK t i = true
 thr : ∃ s : Nat → Nat, s 0 = t.locs.length ∧ s t.regs.length = t.nodes.length ∧ ∀ i, i < t.regs.length → Ec t (s i) i = true ∧ ∃ n, Jc t n (s i) (s (i + 1))
end Go.AM

namespace Go.AM
open Go Go.Proofs
theorem A9f {v n : Int} (hn : 0 < n) : (v.tmod n < 0 → v.tmod n + n = v % n ∧ -n < v.tmod n) ∧ (¬ v.tmod n < 0 → v.tmod n = v % n) := by
 have h1 : v.tmod n < n := Int.tmod_lt_of_pos v hn
 have h2 : -n < v.tmod n := Int.lt_tmod_of_pos v hn
 have h3 : v.tmod n + n * v.tdiv n = v := Int.tmod_add_mul_tdiv v n
 have h4 : v % n = v.tmod n % n := by
  conv => lhs; rw [← h3]
  exact Int.add_mul_emod_self_left ..
 constructor
 ·intro h
  refine ⟨?_, h2⟩
  rw [h4, ← Int.add_emod_right, Int.emod_eq_of_lt (by omega) (by omega)]
 ·intro h
  rw [h4, Int.emod_eq_of_lt (by omega) (by omega)]
/-- A row of an expression. -/
inductive GE : List VV → Prop
 | mk (op n : Int) (nm : ByteArray) (kids : List (List VV)) : kids.length ≤ 1000 → (∀ k ∈ kids, GE k) → GE [.i .i64 op, .i .i64 n, .s nm, .ls kids]
theorem GE.len {r : List VV} (h : GE r) : r.length = 4 := by cases h; rfl
theorem GE.frz {r : List VV} (h : GE r) {hh : VH} {d : Nat} : Bb (frz hh (d + 1)) r = some (r, []) := by cases h; rfl
theorem GE.take {r : List VV} (h : GE r) : r.take 4 = r := by cases h; rfl
theorem GE.cell {r : List VV} (h : GE r) : r.all VV.cell = true := by cases h; rfl
theorem R5 {l : List (List VV)} {k : Nat} (h : k < l.length) : l[k]? = some l[k] := List.getElem?_eq_getElem h
def N4 : List ByteArray := [⟨⟨[97]⟩⟩, ⟨⟨[98]⟩⟩, ⟨⟨[99]⟩⟩, ⟨⟨[100]⟩⟩]
def Ga (k : Int) : Bool := decide (k = 1) || decide (k = 2) || decide (k = 4) || decide (k = 5)
/-- What a statement of a kind must have. -/
structure OKS (locs : List ByteArray) (kind mode : Int) (reg loc : ByteArray) (args : Nat) : Prop where
 k : 1 ≤ kind ∧ kind ≤ 7
 rn : Ga kind = true → reg ∈ N4
 one : kind = 1 ∨ kind = 3 ∨ kind = 4 ∨ kind = 5 ∨ kind = 7 → 1 ≤ args
 two : kind = 5 → 2 ≤ args
 loc : kind = 2 ∨ kind = 3 ∨ kind = 4 ∨ kind = 5 → loc ∈ locs
 ml : kind = 2 → mode = 0 ∨ mode = 1 ∨ mode = 4
 ms : kind = 3 → mode = 0 ∨ mode = 2 ∨ mode = 4
 ma : kind = 4 ∨ kind = 5 → 0 ≤ mode ∧ mode ≤ 4
 mf : kind = 6 → 1 ≤ mode ∧ mode ≤ 4
 rs : reg.size ≤ 1000
abbrev rS (kind mode : Int) (reg loc : ByteArray) (args th el : List (List VV)) : List VV := [.i .i64 kind, .i .i64 mode, .s reg, .s loc, .ls args, .ls th, .ls el]
inductive GS (locs : List ByteArray) : List VV → Prop
 | mk (kind mode : Int) (reg loc : ByteArray) (args th el : List (List VV)) : args.length ≤ 1000 → (∀ a ∈ args, GE a) → th.length ≤ 1000 → el.length ≤ 1000 →
  (∀ s ∈ th, GS locs s) → (∀ s ∈ el, GS locs s) → OKS locs kind mode reg loc args.length → GS locs (rS kind mode reg loc args th el)
/-- All registers that are set have these names. -/
inductive RI (names : List ByteArray) : List VV → Prop
 | mk (kind mode : Int) (reg loc : ByteArray) (args th el : List (List VV)) : (Ga kind = true → reg ∈ names) → (∀ s ∈ th, RI names s) → (∀ s ∈ el, RI names s) → RI names (rS kind mode reg loc args th el)
theorem RI.mono {n m : List ByteArray} (h : ∀ x ∈ n, x ∈ m) {r : List VV} (k : RI n r) : RI m r := by
 induction k with
 | mk kind mode reg loc args th el h1 h2 h3 ih1 ih2 => exact .mk _ _ _ _ _ _ _ (fun e => h _ (h1 e)) ih1 ih2
theorem GS.len {l : List ByteArray} {r : List VV} (h : GS l r) : r.length = 7 := by cases h; rfl
theorem GS.frz {l : List ByteArray} {r : List VV} (h : GS l r) {hh : VH} {d : Nat} : Bb (frz hh (d + 1)) r = some (r, []) := by cases h; rfl
theorem GS.take {l : List ByteArray} {r : List VV} (h : GS l r) : r.take 7 = r := by cases h; rfl
theorem GS.cell {l : List ByteArray} {r : List VV} (h : GS l r) : r.all VV.cell = true := by cases h; rfl
theorem A43 {c : List ByteArray} {l : List (List VV)} (h : ∀ k ∈ l, GS c k) : CX 7 l = true := by
 unfold CX
 rw [List.all_eq_true]
 intro r hr
 rw [(h r hr).len]; rfl
end Go.AM

namespace Go.AM
open Go Go.Proofs
theorem Dg {t t' : A3} {l : List Aw} (h : t'.nodes = t.nodes ++ l) {i : Nat} (hi : i < t.nodes.length) : t'.at i = t.at i := by
 unfold A3.at
 rw [h, List.getD_eq_getElem?_getD, List.getD_eq_getElem?_getD, List.getElem?_append_left hi]
theorem A5i {t t' : A3} {l : List Aw} (h : t'.nodes = t.nodes ++ l) {i : Nat} (hi : t.nodes.length ≤ i) (h2 : i < t'.nodes.length) : t'.at i ∈ l := by
 have hl : t'.nodes.length = t.nodes.length + l.length := by rw [h, List.length_append]
 unfold A3.at
 rw [h, List.getD_eq_getElem?_getD, List.getElem?_append_right hi, List.getElem?_eq_getElem (by omega)]
 exact List.getElem_mem _
/-- The same but for nodes that come behind. -/
structure VU (t t' : A3) (l : List Aw) : Prop where
 n : t'.nodes = t.nodes ++ l
 v : t'.vals = t.vals
 l : t'.locs = t.locs
 r : t'.regs = t.regs
theorem VU.len {t t' : A3} {l : List Aw} (h : VU t t' l) : t.nodes.length ≤ t'.nodes.length := by rw [h.n, List.length_append]; omega
theorem Zl {t t' : A3} {l : List Aw} (h : VU t t' l) {u a : Nat} (hu : u < t.nodes.length) (hx : ∀ x ∈ l, x.up ≠ (u : Int)) : BF t' a u = BF t a u := by
 unfold BF
 by_cases ha : a < t.nodes.length
 ·have := h.len
  have ha' : a < t'.nodes.length := by omega
  rw [Dg h.n ha, Dg h.n hu, decide_eq_true ha, decide_eq_true ha']
 ·rw [decide_eq_false ha]
  by_cases ha' : a < t'.nodes.length
  ·have := hx _ (A5i h.n (by omega) ha')
   rw [decide_eq_false this]; simp
  ·rw [decide_eq_false ha']; simp
theorem W7 {t t' : A3} {l : List Aw} (h : VU t t' l) {u : Nat} (hu : u < t.nodes.length) (hx : ∀ x ∈ l, x.up ≠ (u : Int)) : Er t' u = Er t u := by
 unfold Er
 by_cases ha : u + 1 < t.nodes.length
 ·have := h.len
  have ha' : u + 1 < t'.nodes.length := by omega
  rw [Dg h.n ha, decide_eq_true ha, decide_eq_true ha']
 ·rw [decide_eq_false ha]
  by_cases ha' : u + 1 < t'.nodes.length
  ·have := hx _ (A5i h.n (by omega) ha')
   rw [decide_eq_false this]; simp
  ·rw [decide_eq_false ha']; simp
theorem Jc.lt {t : A3} : ∀ {n u e : Nat}, Jc t n u e → u < e := by
 intro n
 induction n with
 | zero => intro u e h; exact h.elim
 | succ n ih =>
  intro u e h
  rcases h.2 with ⟨_, _, rfl⟩ | ⟨_, _, _, _, b⟩ | ⟨_, _, _, vals, k, loc, mode, _, h0, hk0, hke, _, hs, _⟩
  ·omega
  ·have := ih b; omega
  ·have key : ∀ j, j ≤ vals → u + 1 ≤ k j := by
    intro j
    induction j with
    | zero => intro _; omega
    | succ j ihj =>
     intro hj
     have h1 := ihj (by omega)
     have h2 := ih (hs j (by omega)).2.2
     omega
   have := key vals (Nat.le_refl _)
   omega
theorem K2 {t : A3} {a u : Nat} (h : BF t a u = true) : a < t.nodes.length := by
 unfold BF at h
 simp only [Bool.and_eq_true, decide_eq_true_eq] at h
 exact h.1.1
/-- The places of kids rise. -/
theorem A3m {t : A3} {n : Nat} {k : Nat → Nat} {vals : Nat} (hs : ∀ v, v < vals → Jc t n (k v) (k (v + 1))) : ∀ i j, i ≤ j → j ≤ vals → k i ≤ k j := by
  intro i j hij hj
  induction j with
  | zero => have : i = 0 := by omega
            subst this; exact Nat.le_refl _
  | succ j ih =>
    by_cases e : i = j + 1
    · subst e; exact Nat.le_refl _
    · have h1 := ih (by omega) (by omega)
      have h2 := (hs j (by omega)).lt
      omega
theorem Jc.le {t : A3} : ∀ {n u e : Nat}, Jc t n u e → e ≤ t.nodes.length := by
 intro n
 induction n with
 | zero => intro u e h; exact h.elim
 | succ n ih =>
  intro u e h
  rcases h.2 with ⟨_, _, rfl⟩ | ⟨_, _, _, _, b⟩ | ⟨_, _, _, vals, k, loc, mode, _, h0, hk0, hke, _, hs, _⟩
  ·exact h.1.1
  ·exact ih b
  ·have := ih (hs (vals - 1) (by omega)).2.2
   rw [show vals - 1 + 1 = vals by omega, hke] at this
   exact this
theorem Jc.more {t t' : A3} {l : List Aw} (h : VU t t' l) : ∀ {n u e : Nat}, Jc t n u e → (∀ x ∈ l, x.up < (u : Int) ∨ (e : Int) ≤ x.up) → Jc t' n u e := by
 intro n
 induction n with
 | zero => intro u e b; exact b.elim
 | succ n ih =>
  intro u e b hx
  have hlt := b.lt
  have hle := b.le
  have hl := h.len
  obtain ⟨⟨i1, i2, i3⟩, b⟩ := b
  have hu : t'.at u = t.at u := Dg h.n i1
  have hc : ∀ a, BF t' a u = BF t a u := fun a => Zl h i1 fun x hx' e' => by rcases hx x hx' with h1 | h1 <;> omega
  refine ⟨⟨by omega, by rw [hu]; exact i2, by rw [hu, h.r]; exact i3⟩, ?_⟩
  rcases b with ⟨b1, b2, b3⟩ | ⟨b1, b2, b3, b4, b5⟩ | ⟨b1, b2, b3, vals, k, loc, mode, b4, b5, b6, b7, b8, b9, b10⟩
  ·refine .inl ⟨(hc _).trans b1, ?_, b3⟩
   unfold A0x Hv at b2 ⊢
   rw [hu, h.r, h.v]; exact b2
  ·refine .inr (.inl ⟨(hc _).trans b1, by rw [hu]; exact b2, by rw [hu]; exact b3, ?_, ih b5 fun x hx' => ?_⟩)
   ·have := K2 b1
    unfold D3 Jv Hv at b4 ⊢
    rw [hu, Dg h.n this, h.l, h.v]; exact b4
   ·rcases hx x hx' with h1 | h1
    ·exact .inl (by omega)
    ·exact .inr h1
  ·have hr := A3m fun v hv => (b9 v hv).2.2
   refine .inr (.inr ⟨(hc _).trans b1, by rw [hu]; exact b2, by rw [hu]; exact b3, vals, k, loc, mode, by rw [h.v]; exact b4, b5, b6, b7, by unfold Jv at b8 ⊢; rw [h.l]; exact b8, fun v hv => ?_, ?_⟩)
   ·obtain ⟨c1, c2, c3⟩ := b9 v hv
    have h1 := hr 0 v (by omega) (by omega)
    have h2 := hr (v + 1) vals (by omega) (by omega)
    refine ⟨(hc _).trans c1, ?_, ih c3 fun x hx' => ?_⟩
    ·unfold E7 at c2 ⊢
     rw [Dg h.n (K2 c1)]; exact c2
    ·rcases hx x hx' with h3 | h3
     ·exact .inl (by omega)
     ·exact .inr (by omega)
   ·rcases b10 with b10 | ⟨c1, c2, v, c3, c4⟩
    ·exact .inl b10
    ·have h1 := hr 0 v (by omega) (by omega)
     have h2 := hr (v + 1) vals (by omega) (by omega)
     have h3 := (b9 v c3).2.2.lt
     refine .inr ⟨c1, c2, v, c3, ?_⟩
     rw [W7 h (K2 (b9 v c3).1) fun x hx' e' => by rcases hx x hx' with h4 | h4 <;> omega]
     exact c4
theorem Jc.fuel {t : A3} : ∀ {n u e : Nat}, Jc t n u e → Jc t (n + 1) u e := by
 intro n
 induction n with
 | zero => intro u e h; exact h.elim
 | succ n ih =>
  intro u e h
  refine ⟨h.1, ?_⟩
  rcases h.2 with b | ⟨b1, b2, b3, b4, b5⟩ | ⟨b1, b2, b3, vals, k, loc, mode, b4, b5, b6, b7, b8, b9, b10⟩
  ·exact .inl b
  ·exact .inr (.inl ⟨b1, b2, b3, b4, ih b5⟩)
  ·exact .inr (.inr ⟨b1, b2, b3, vals, k, loc, mode, b4, b5, b6, b7, b8, fun v hv => ⟨(b9 v hv).1, (b9 v hv).2.1, ih (b9 v hv).2.2⟩, b10⟩)
theorem Jc.fuel' {t : A3} {n m u e : Nat} (h : Jc t n u e) (hm : n ≤ m) : Jc t m u e := by
  induction m with
  | zero => have : n = 0 := by omega
            subst this; exact h
  | succ m ih =>
    by_cases e : n = m + 1
    · subst e; exact h
    · exact (ih (by omega)).fuel
end Go.AM

namespace Go.AM
open Go Go.Proofs
abbrev TT (vals : Int) (locs : List ByteArray) (rg : List (List ByteArray)) (ns : List Aw) : A3 := ⟨vals, locs, rg, ns⟩
/-- From a node on all has been built that is beneath it. -/
def WA (vals : Int) (locs : List ByteArray) (rg : List (List ByteArray)) (ns : List Aw) (n : Aw) (ns' : List Aw) : Prop :=
 ∃ (f : Bool) (g : List Int) (l : List Aw), ns' = ns ++ { n with fin := f, regs := g } :: l ∧ (∀ x ∈ l, (ns.length : Int) ≤ x.up) ∧ ∃ m, Jc (TT vals locs rg ns') m ns.length ns'.length
def HP (nl : Nat) (vals : Int) (m n : Aw) : Bool :=
 (decide (n.kind = 4) && decide (n.loc = 0) && decide (n.val = 0) && !n.rmw && decide (1 ≤ n.mode) && decide (n.mode ≤ 4)) ||
 (decide (n.kind = 3) && (decide (0 ≤ n.loc) && decide (n.loc < nl)) && (decide (0 ≤ n.val) && decide (n.val < vals)) &&
  (if n.rmw then decide (0 ≤ n.mode) && decide (n.mode ≤ 4) && decide (m.kind = 2) && decide (m.loc = n.loc) && decide (m.mode = n.mode) else decide (n.mode = 0) || decide (n.mode = 2) || decide (n.mode = 4)))
theorem YR (t : A3) (u : Nat) : D3 t u = HP t.locs.length t.vals (t.at u) (t.at (u + 1)) := rfl
theorem Lf {vals : Int} {locs : List ByteArray} {rg : List (List ByteArray)} {a : List Aw} {x : Aw} {b : List Aw} : (TT vals locs rg (a ++ x :: b)).at a.length = x := by
 simp [A3.at]
theorem A98 {vals : Int} {locs : List ByteArray} {rg : List (List ByteArray)} {a : List Aw} {x y : Aw} {b : List Aw} : (TT vals locs rg (a ++ x :: y :: b)).at (a.length + 1) = y := by
 simp [A3.at]
theorem A4C {vals : Int} {locs : List ByteArray} {rg : List (List ByteArray)} {ns : List Aw} {n : Aw} {th : Nat} (ht : n.thread = th) (hth : th < rg.length) {g : List Int} (hg : g.length = (rg.getD th []).length) (hv : ∀ v ∈ g, 0 ≤ v ∧ v < vals) :
  WA vals locs rg ns n (ns ++ [{ n with fin := true, regs := g }]) := by
 refine ⟨true, g, [], rfl, by simp, 1, ?_⟩
 have ha : (TT vals locs rg (ns ++ [{ n with fin := true, regs := g }])).at ns.length = { n with fin := true, regs := g } := Lf
 have hl : (TT vals locs rg (ns ++ [{ n with fin := true, regs := g }])).nodes.length = ns.length + 1 := by simp
 refine ⟨⟨by omega, by rw [ha]; show 0 ≤ n.thread; omega, by rw [ha]; show n.thread < (rg.length : Int); omega⟩, .inl ⟨?_, ?_, by simp⟩⟩
 ·unfold BF
  rw [hl]; simp
 ·unfold A0x
  rw [ha]
  simp only [ht, Int.toNat_natCast, hg, decide_true, Bool.true_and, List.all_eq_true]
  intro v h
  obtain ⟨h1, h2⟩ := hv v h
  simp [Hv, h1, h2]
theorem RU {n : Aw} (h1 : n.fin = false) (h2 : n.regs = []) : ({ n with fin := false, regs := [] } : Aw) = n := by
 cases n; simp at h1 h2; subst h1; subst h2; rfl
theorem KS {vals : Int} {locs : List ByteArray} {rg : List (List ByteArray)} {ns : List Aw} {n x : Aw} {th : Nat} (ht : n.thread = th) (hth : th < rg.length) (hf : n.fin = false) (hr : n.regs = []) (hxu : x.up = ns.length) (hxt : x.thread = th)
  (ha : HP locs.length vals n x = true) {ns' : List Aw} (h : WA vals locs rg (ns ++ [n]) x ns') : WA vals locs rg ns n ns' := by
 obtain ⟨f, g, l, rfl, h1, m, h2⟩ := h
 refine ⟨false, [], { x with fin := f, regs := g } :: l, ?_, ?_, m + 1, ?_⟩
 ·rw [RU hf hr]; simp
 ·intro y hy
  rcases List.mem_cons.1 hy with rfl | hy
  ·show (ns.length : Int) ≤ x.up; omega
  ·have := h1 y hy
   simp at this; omega
 ·have e : ns ++ [n] ++ { x with fin := f, regs := g } :: l = ns ++ n :: { x with fin := f, regs := g } :: l := by simp
  rw [e] at h2 ⊢
  have a0 : (TT vals locs rg (ns ++ n :: { x with fin := f, regs := g } :: l)).at ns.length = n := Lf
  have a1 : (TT vals locs rg (ns ++ n :: { x with fin := f, regs := g } :: l)).at (ns.length + 1) = { x with fin := f, regs := g } := A98
  have hl : ns.length + 1 < (TT vals locs rg (ns ++ n :: { x with fin := f, regs := g } :: l)).nodes.length := by simp
  refine ⟨⟨by omega, by rw [a0]; omega, by rw [a0]; show n.thread < (rg.length : Int); omega⟩, .inr (.inl ⟨?_, by rw [a0]; exact hf, by rw [a0]; exact hr, ?_, ?_⟩)⟩
  ·unfold BF
   rw [a0, a1, decide_eq_true hl]
   simp [hxu, hxt, ht]
  ·rw [YR, a0, a1]; exact ha
  ·simpa using h2
theorem N3 {vals : Int} {locs : List ByteArray} {rg : List (List ByteArray)} {ns : List Aw} {x y : Aw} {ns' : List Aw} (hu : y.up = ns.length) (hr : y.rmw = true) (h : WA vals locs rg (ns ++ [x]) y ns') : Er (TT vals locs rg ns') ns.length = true := by
 obtain ⟨f, g, l, rfl, _⟩ := h
 have e : (TT vals locs rg (ns ++ [x] ++ { y with fin := f, regs := g } :: l)).at (ns.length + 1) = { y with fin := f, regs := g } := by
  have := Lf (vals := vals) (locs := locs) (rg := rg) (a := ns ++ [x]) (x := { y with fin := f, regs := g }) (b := l)
  simpa using this
 unfold Er
 rw [e]
 simp [hu, hr]
/-- Reads side by side, so many as yet. -/
def V8 (vals : Int) (locs : List ByteArray) (rg : List (List ByteArray)) (ns : List Aw) (n : Aw) (v : Nat) (loc mode : Int) (rm : Nat → Bool) (nsv : List Aw) : Prop :=
 ∃ (l : List Aw) (k : Nat → Nat), nsv = ns ++ n :: l ∧ (∀ x ∈ l, (ns.length : Int) ≤ x.up) ∧ k 0 = ns.length + 1 ∧ k v = nsv.length ∧
  ∀ j, j < v → BF (TT vals locs rg nsv) (k j) ns.length = true ∧ E7 (TT vals locs rg nsv) (k j) j loc mode = true ∧ (∃ m, Jc (TT vals locs rg nsv) m (k j) (k (j + 1))) ∧ (rm j = true → Er (TT vals locs rg nsv) (k j) = true)
theorem KX {vals : Int} {locs : List ByteArray} {rg : List (List ByteArray)} {ns : List Aw} {n : Aw} {loc mode : Int} {rm : Nat → Bool} : V8 vals locs rg ns n 0 loc mode rm (ns ++ [n]) :=
 ⟨[], fun _ => ns.length + 1, rfl, by simp, rfl, by simp, fun j hj => by omega⟩
theorem A6B {t t' : A3} {l : List Aw} (h : VU t t' l) {u a : Nat} (hu : u < t.nodes.length) (ha : a < t.nodes.length) : BF t' a u = BF t a u := by
 unfold BF
 have := h.len
 rw [Dg h.n ha, Dg h.n hu, decide_eq_true ha, decide_eq_true (show a < t'.nodes.length by omega)]
theorem A9z {t : A3} {k : Nat → Nat} {v : Nat} (h : ∀ j, j < v → ∃ m, Jc t m (k j) (k (j + 1))) : ∀ i j, i ≤ j → j ≤ v → k i ≤ k j := by
  intro i j hij hj
  induction j with
  | zero => have : i = 0 := by omega
            subst this; exact Nat.le_refl _
  | succ j ih =>
    by_cases e : i = j + 1
    · subst e; exact Nat.le_refl _
    · have h1 := ih (by omega) (by omega)
      obtain ⟨m, h2⟩ := h j (by omega)
      have := h2.lt
      omega
theorem HI {vals : Int} {locs : List ByteArray} {rg : List (List ByteArray)} {ns : List Aw} {n x : Aw} {v : Nat} {loc mode : Int} {rm : Nat → Bool} {nsv ns' : List Aw} (h : V8 vals locs rg ns n v loc mode rm nsv)
  (hxu : x.up = ns.length) (hxt : x.thread = n.thread) (hk : x.kind = 2) (hv : x.val = v) (hl : x.loc = loc) (hm : x.mode = mode) (hr : x.rmw = false) (hg : WA vals locs rg nsv x ns') (hrm : rm v = true → Er (TT vals locs rg ns') nsv.length = true) :
  V8 vals locs rg ns n (v + 1) loc mode rm ns' := by
 obtain ⟨l, k, rfl, h1, h2, h3, h4⟩ := h
 obtain ⟨f, g, l', rfl, g1, m', g2⟩ := hg
 have mo : VU (TT vals locs rg (ns ++ n :: l)) (TT vals locs rg ((ns ++ n :: l) ++ { x with fin := f, regs := g } :: l')) ({ x with fin := f, regs := g } :: l') := ⟨rfl, rfl, rfl, rfl⟩
 have hlen : (TT vals locs rg (ns ++ n :: l)).nodes.length = (ns ++ n :: l).length := rfl
 have ru := A9z (t := TT vals locs rg (ns ++ n :: l)) (k := k) (v := v) fun j hj => (h4 j hj).2.2.1
 have hnl : ns.length < (ns ++ n :: l).length := by simp
 refine ⟨l ++ { x with fin := f, regs := g } :: l', fun j => if j ≤ v then k j else ((ns ++ n :: l) ++ { x with fin := f, regs := g } :: l').length, by simp, ?_, by simp [h2], if_neg (by omega), ?_⟩
 ·intro y hy
  rcases List.mem_append.1 hy with hy | hy
  ·exact h1 y hy
  ·rcases List.mem_cons.1 hy with rfl | hy
   ·show (ns.length : Int) ≤ x.up; omega
   ·have := g1 y hy; omega
 ·intro j hj
  dsimp only
  rw [if_pos (show j ≤ v by omega)]
  by_cases e : j = v
  ·subst e
   rw [h3, if_neg (by omega)]
   have a0 : (TT vals locs rg ((ns ++ n :: l) ++ { x with fin := f, regs := g } :: l')).at (ns ++ n :: l).length = { x with fin := f, regs := g } := Lf
   refine ⟨?_, ?_, ⟨m', g2⟩, hrm⟩
   ·unfold BF
    rw [a0, Dg mo.n (by rw [hlen]; exact hnl)]
    have : (TT vals locs rg (ns ++ n :: l)).at ns.length = n := Lf
    rw [this]
    simp [hxu, hxt]
   ·unfold E7
    rw [a0]
    simp [hk, hv, hl, hm, hr]
  ·rw [if_pos (show j + 1 ≤ v by omega)]
   obtain ⟨c1, c2, ⟨m, c3⟩, c4⟩ := h4 j (by omega)
   have c0 := K2 c1
   have r1 := ru (j + 1) v (by omega) (Nat.le_refl _)
   have r0 := ru 0 j (by omega) (by omega)
   have r2 := c3.lt
   rw [h3] at r1
   rw [h2] at r0
   have hx : ∀ y ∈ ({ x with fin := f, regs := g } :: l' : List Aw), y.up < (k j : Int) ∨ (k (j + 1) : Int) ≤ y.up := by
    intro y hy
    rcases List.mem_cons.1 hy with rfl | hy
    ·left; show x.up < (k j : Int); omega
    ·right; have := g1 y hy; omega
   refine ⟨?_, ?_, ⟨m, c3.more mo hx⟩, fun h => ?_⟩
   ·rw [A6B mo (by rw [hlen]; exact hnl) c0]; exact c1
   ·unfold E7 at c2 ⊢
    rw [Dg mo.n c0]; exact c2
   ·rw [W7 mo c0 fun y hy e => by rcases hx y hy with q | q <;> omega]
    exact c4 h
theorem A6m {t : A3} {k : Nat → Nat} : ∀ v, (∀ j, j < v → ∃ m, Jc t m (k j) (k (j + 1))) → ∃ M, ∀ j, j < v → Jc t M (k j) (k (j + 1)) := by
 intro v
 induction v with
 | zero => intro _; exact ⟨0, fun j hj => by omega⟩
 | succ v ih =>
  intro h
  obtain ⟨M, hM⟩ := ih fun j hj => h j (by omega)
  obtain ⟨m, hm⟩ := h v (by omega)
  refine ⟨max M m, fun j hj => ?_⟩
  by_cases e : j = v
  ·subst e; exact hm.fuel' (Nat.le_max_right _ _)
  ·exact (hM j (by omega)).fuel' (Nat.le_max_left _ _)
theorem Mu {vals : Nat} {locs : List ByteArray} {rg : List (List ByteArray)} {ns : List Aw} {n : Aw} {th : Nat} (ht : n.thread = th) (hth : th < rg.length) (hf : n.fin = false) (hr : n.regs = []) {loc mode : Int} {rm : Nat → Bool} {nsv : List Aw} (hv : 0 < vals) (hl : 0 ≤ loc ∧ loc < locs.length)
  (hm : (mode = 0 ∨ mode = 1 ∨ mode = 4) ∨ (0 ≤ mode ∧ mode ≤ 4 ∧ ∃ v, v < vals ∧ rm v = true)) (h : V8 vals locs rg ns n vals loc mode rm nsv) : WA vals locs rg ns n nsv := by
 obtain ⟨l, k, rfl, h1, h2, h3, h4⟩ := h
 refine ⟨false, [], l, by rw [RU hf hr], h1, ?_⟩
 obtain ⟨M, hM⟩ := A6m vals fun j hj => (h4 j hj).2.2.1
 have a0 : (TT vals locs rg (ns ++ n :: l)).at ns.length = n := Lf
 have c0 := (h4 0 hv).1
 rw [h2] at c0
 refine ⟨M + 1, ⟨by have := K2 c0; omega, by rw [a0]; omega, by rw [a0]; show n.thread < (rg.length : Int); omega⟩, .inr (.inr ⟨c0, by rw [a0]; exact hf, by rw [a0]; exact hr, vals, k, loc, mode, rfl, hv, h2, h3, ?_, fun v hv => ⟨(h4 v hv).1, (h4 v hv).2.1, hM v hv⟩, ?_⟩)⟩
 ·simp [Jv, hl.1, hl.2]
 ·rcases hm with hm | ⟨m1, m2, v, m3, m4⟩
  ·exact .inl hm
  ·exact .inr ⟨m1, m2, v, m3, (h4 v m3).2.2.2 m4⟩
end Go.AM

namespace Go.AM
open Go Go.Proofs
def Thr (vals : Int) (locs : List ByteArray) (rg : List (List ByteArray)) (i : Nat) (ns : List Aw) : Prop :=
 (locs.length ≤ ns.length ∧ ∀ j, j < locs.length → HK (TT vals locs rg ns) j = true) ∧ ∃ s : Nat → Nat, s 0 = locs.length ∧ s i = ns.length ∧
  ∀ j, j < i → Ec (TT vals locs rg ns) (s j) j = true ∧ ∃ m, Jc (TT vals locs rg ns) m (s j) (s (j + 1))
theorem A6P {vals : Int} {locs : List ByteArray} {rg : List (List ByteArray)} {i : Nat} {ns ns' : List Aw} {x : Aw} (h : Thr vals locs rg i ns) (hx : x = ⟨i, -1, 1, 0, 0, 0, false, false, []⟩) (hg : WA vals locs rg ns x ns') : Thr vals locs rg (i + 1) ns' := by
 subst hx
 obtain ⟨⟨h1, h2⟩, s, s0, si, hs⟩ := h
 obtain ⟨f, g, l, rfl, g1, m, g2⟩ := hg
 let x' : Aw := ⟨i, -1, 1, 0, 0, 0, false, f, g⟩
 have mo : VU (TT vals locs rg ns) (TT vals locs rg (ns ++ x' :: l)) (x' :: l) := ⟨rfl, rfl, rfl, rfl⟩
 have hl : (TT vals locs rg ns).nodes.length = ns.length := rfl
 have ru := A9z (t := TT vals locs rg ns) (k := s) (v := i) fun j hj => (hs j hj).2
 refine ⟨⟨by simp; omega, fun j hj => ?_⟩, fun j => if j ≤ i then s j else (ns ++ x' :: l).length, by simp [s0], if_neg (by omega), fun j hj => ?_⟩
 ·have := h2 j hj
  unfold HK Hv at this ⊢
  rw [Dg mo.n (by rw [hl]; omega)]
  exact this
 ·dsimp only
  rw [if_pos (show j ≤ i by omega)]
  by_cases e : j = i
  ·subst e
   rw [si, if_neg (by omega)]
   refine ⟨?_, m, g2⟩
   unfold Ec
   have : (TT vals locs rg (ns ++ x' :: l)).at ns.length = x' := Lf
   rw [this]; simp [x']
  ·rw [if_pos (show j + 1 ≤ i by omega)]
   obtain ⟨b1, m2, b2⟩ := hs j (by omega)
   have r1 := ru (j + 1) i (by omega) (Nat.le_refl _)
   have r2 := b2.lt
   rw [si] at r1
   refine ⟨?_, m2, b2.more mo fun y hy => ?_⟩
   ·unfold Ec at b1 ⊢
    rw [Dg mo.n (by rw [hl]; omega)]; exact b1
   ·rcases List.mem_cons.1 hy with rfl | hy
    ·left; show (-1 : Int) < _; omega
    ·right; have := g1 y hy; omega
/-- The first writes of locations. -/
def PI (ini : List (ByteArray × Int)) (k : Nat) : List Aw := (List.range k).map fun (i : Nat) => (⟨-1, -1, 3, (i : Int), 0, (ini.getD i default).2, false, false, []⟩ : Aw)
theorem JQ (ini : List (ByteArray × Int)) (k : Nat) : (PI ini k).length = k := by simp [PI]
theorem A2R (ini : List (ByteArray × Int)) (k : Nat) : PI ini (k + 1) = PI ini k ++ [⟨-1, -1, 3, k, 0, (ini.getD k default).2, false, false, []⟩] := by
 unfold PI
 rw [List.range_succ, List.map_append]; rfl
theorem A6C {vals : Int} {rg : List (List ByteArray)} {ini : List (ByteArray × Int)} (hv : ∀ x ∈ ini, 0 ≤ x.2 ∧ x.2 < vals) : Thr vals (ini.map (·.1)) rg 0 (PI ini ini.length) := by
 refine ⟨⟨by simp [JQ], fun j hj => ?_⟩, fun _ => ini.length, by simp, by simp [JQ], fun j hj => by omega⟩
 have hj' : j < ini.length := by simpa using hj
 have e : (TT vals (ini.map (·.1)) rg (PI ini ini.length)).at j = ⟨-1, -1, 3, j, 0, (ini.getD j default).2, false, false, []⟩ := by
  unfold A3.at
  simp only [List.getD_eq_getElem?_getD]
  rw [List.getElem?_eq_getElem (by rw [JQ]; exact hj')]
  simp [PI]
 have hm : ini.getD j default ∈ ini := Aq hj'
 obtain ⟨v1, v2⟩ := hv _ hm
 unfold HK
 rw [e]
 simp [Hv, v1, v2]
 simp [List.getD_eq_getElem?_getD] at v1 v2
 omega
theorem A3c {vals : Int} {locs : List ByteArray} {rg : List (List ByteArray)} {ns : List Aw} (h : Thr vals locs rg rg.length ns) (v2 : 2 ≤ vals) (v4 : vals ≤ 4) (l4 : locs.length ≤ 4) (ln : locs.Nodup) (n64 : ns.length ≤ 64) (r1 : 1 ≤ rg.length) (r4 : rg.length ≤ 4) (rl : ∀ l ∈ rg, l.length ≤ 4 ∧ l.Nodup) : A8 (TT vals locs rg ns) where
 v2 := v2
 v4 := v4
 l4 := l4
 ln := ln
 n64 := n64
 r1 := r1
 r4 := r4
 rl := rl
 first := h.1
 thr := h.2
end Go.AM

namespace Go.AM
open Go Go.Proofs
structure Vl (t : A3) (m : Nat) : Prop where
 thr : 0 ≤ (t.at m).thread
 up0 : -1 ≤ (t.at m).up
 up : (t.at m).up < m
 loc : (t.at m).kind = 2 ∨ (t.at m).kind = 3 → Jv t (t.at m).loc = true
 rmw : (t.at m).rmw = true → 0 ≤ (t.at m).up ∧ (t.at (t.at m).up.toNat).kind = 2
 par : 0 ≤ (t.at m).up → (t.at (t.at m).up.toNat).thread = (t.at m).thread
theorem JI {t : A3} {a u : Nat} (h : BF t a u = true) : (t.at a).up = u ∧ (t.at a).thread = (t.at u).thread := by
 simp only [BF, Bool.and_eq_true, decide_eq_true_eq] at h
 exact ⟨h.1.2, h.2⟩
theorem A3r {t : A3} {u : Nat} (h : D3 t u = true) : (t.at (u + 1)).kind = 2 ∨ (t.at (u + 1)).kind = 3 → Jv t (t.at (u + 1)).loc = true := by
 simp only [D3, Bool.or_eq_true, Bool.and_eq_true, decide_eq_true_eq] at h
 rcases h with h | h
 ·intro k; have := h.1.1.1.1.1; omega
 ·intro _; exact h.1.1.2
theorem A3g {t : A3} {u : Nat} (h : D3 t u = true) (hr : (t.at (u + 1)).rmw = true) : (t.at u).kind = 2 := by
 simp only [D3, hr, Bool.or_eq_true, Bool.and_eq_true, decide_eq_true_eq, if_true, Bool.not_true] at h
 rcases h with h | h
 ·have := h.1.1.2; cases this
 ·exact h.2.1.1.2
theorem Ep {k : Nat → Nat} {m : Nat} : ∀ n : Nat, k 0 ≤ m → m < k n → ∃ v, v < n ∧ k v ≤ m ∧ m < k (v + 1) := by
 intro n
 induction n with
 | zero => intro h1 h2; omega
 | succ n ih =>
  intro h1 h2
  by_cases c : m < k n
  ·obtain ⟨v, a, b, d⟩ := ih h1 c
   exact ⟨v, by omega, b, d⟩
  ·exact ⟨n, by omega, by omega, h2⟩
theorem Jc.good {t : A3} : ∀ {n u e : Nat}, Jc t n u e → ∀ m, u < m → m < e → Vl t m := by
 intro n
 induction n with
 | zero => intro u e h; exact absurd h (by simp [Jc])
 | succ n ih =>
  intro u e h m h1 h2
  obtain ⟨⟨_, ht, _⟩, h⟩ := h
  rcases h with ⟨_, _, rfl⟩ | ⟨c, _, _, al, hb⟩ | ⟨c, _, _, vals, k, loc, mode, _, _, hk0, hke, hloc, hs, _⟩
  ·omega
  ·by_cases e1 : m = u + 1
   ·subst e1
    obtain ⟨p, q⟩ := JI c
    exact ⟨by omega, by omega, by omega, A3r al, fun hr => ⟨by omega, by rw [p, Int.toNat_natCast]; exact A3g al hr⟩, fun _ => by rw [p, Int.toNat_natCast]; exact q.symm⟩
   ·exact ih hb m (by omega) h2
  ·obtain ⟨v, hv, a, b⟩ := Ep (k := k) (m := m) vals (by omega) (by omega)
   obtain ⟨s1, s2, s3⟩ := hs v hv
   by_cases e1 : m = k v
   ·subst e1
    obtain ⟨p, q⟩ := JI s1
    simp only [E7, Bool.and_eq_true, decide_eq_true_eq] at s2
    exact ⟨by omega, by omega, by omega, fun _ => by rw [s2.1.1.2]; exact hloc, fun hr => by rw [hr] at s2; simp at s2, fun _ => by rw [p, Int.toNat_natCast]; exact q.symm⟩
   ·exact ih s3 m (by omega) b
theorem A8.good {t : A3} (h : A8 t) (m : Nat) (h1 : t.locs.length ≤ m) (h2 : m < t.nodes.length) : Vl t m := by
 obtain ⟨s, h0, he, hs⟩ := h.thr
 obtain ⟨v, hv, a, b⟩ := Ep (k := s) (m := m) t.regs.length (by omega) (by omega)
 obtain ⟨hb, n, hn⟩ := hs v hv
 by_cases e1 : m = s v
 ·subst e1
  simp only [Ec, Bool.and_eq_true, decide_eq_true_eq] at hb
  have k1 := hb.1.1.1.1.2
  have k3 := hb.1.1.1.1.1.2
  have k4 := hb.2
  exact ⟨by omega, by omega, by omega, fun k => by omega, fun hr => by simp_all, fun h0 => by omega⟩
 ·exact hn.good m (by omega) b
structure A5w (t : A3) (i : Nat) : Prop where
 thr : (t.at i).thread = -1
 up : (t.at i).up = -1
 kind : (t.at i).kind = 3
 loc : (t.at i).loc = i
theorem A8.init {t : A3} (h : A8 t) (i : Nat) (hi : i < t.locs.length) : A5w t i := by
 have := h.first.2 i hi
 simp only [HK, Bool.and_eq_true, decide_eq_true_eq] at this
 obtain ⟨⟨⟨⟨⟨⟨⟨⟨a, b⟩, c⟩, d⟩, _⟩, _⟩, _⟩, _⟩, _⟩ := this
 exact ⟨a, b, c, d⟩
theorem A8.up {t : A3} (h : A8 t) : K5 t := by
 intro i hi
 by_cases c : i < t.locs.length
 ·rw [(h.init i c).up]; omega
 ·exact (h.good i (by omega) hi).up
theorem A8.wloc {t : A3} (h : A8 t) {m : Nat} (hm : m < t.nodes.length) (hk : (t.at m).kind = 2 ∨ (t.at m).kind = 3) : 0 ≤ (t.at m).loc ∧ (t.at m).loc < t.locs.length := by
 by_cases c : m < t.locs.length
 ·rw [(h.init m c).loc]; omega
 ·have := (h.good m (by omega) hm).loc hk
  simp only [Jv, Bool.and_eq_true, decide_eq_true_eq] at this
  exact this
theorem A8.thr_iff {t : A3} (h : A8 t) {m : Nat} (hm : m < t.nodes.length) : (t.at m).thread < 0 ↔ m < t.locs.length := by
 by_cases c : m < t.locs.length
 ·rw [(h.init m c).thr]; omega
 ·have := (h.good m (by omega) hm).thr
  omega
end Go.AM

namespace Go.AM
open Go Go.Proofs
def Sq (t : A3) : Nat → Nat → Int
 | 0, _ => 0
 | n + 1, i => if (t.at i).up < 0 then 0 else Sq t n (t.at i).up.toNat + 1
def Tj (t : A3) : Nat → Nat → BitVec 64
 | 0, _ => 0#64
 | n + 1, i => if (t.at i).up < 0 then 0#64 else Tj t n (t.at i).up.toNat ||| Cy (t.at i).up
def NV (t : A3) (i : Nat) : Int := Sq t (i + 1) i
def ovr (t : A3) (i : Nat) : BitVec 64 := Tj t (i + 1) i
theorem A3w {t : A3} (h : K5 t) : ∀ (n i : Nat), i < n → i < t.nodes.length → Sq t (n + 1) i = Sq t n i := by
 intro n
 induction n with
 | zero => intro i hi; omega
 | succ n ih =>
  intro i hi hl
  rw [Sq]
  conv => rhs; rw [Sq]
  by_cases c : (t.at i).up < 0
  ·rw [if_pos c, if_pos c]
  ·rw [if_neg c, if_neg c]
   have := h i hl
   rw [ih _ (by omega) (by omega)]
theorem A3I {t : A3} (h : K5 t) : ∀ (n i : Nat), i < n → i < t.nodes.length → Tj t (n + 1) i = Tj t n i := by
 intro n
 induction n with
 | zero => intro i hi; omega
 | succ n ih =>
  intro i hi hl
  rw [Tj]
  conv => rhs; rw [Tj]
  by_cases c : (t.at i).up < 0
  ·rw [if_pos c, if_pos c]
  ·rw [if_neg c, if_neg c]
   have := h i hl
   rw [ih _ (by omega) (by omega)]
theorem A88 {t : A3} (h : K5 t) {i : Nat} (hl : i < t.nodes.length) : ∀ k, Sq t (i + 1 + k) i = NV t i := by
 intro k
 induction k with
 | zero => rfl
 | succ k ih => rw [← ih]; exact A3w h (i + 1 + k) i (by omega) hl
theorem A8S {t : A3} (h : K5 t) {i : Nat} (hl : i < t.nodes.length) : ∀ k, Tj t (i + 1 + k) i = ovr t i := by
 intro k
 induction k with
 | zero => rfl
 | succ k ih => rw [← ih]; exact A3I h (i + 1 + k) i (by omega) hl
theorem Z8 {t : A3} (h : K5 t) {i u : Nat} (hl : i < t.nodes.length) (hu : (t.at i).up = u) : NV t i = NV t u + 1 := by
 have := h i hl
 rw [NV, Sq, if_neg (by omega), hu, Int.toNat_natCast, ← A88 h (by omega) (i - (u + 1))]
 rw [show u + 1 + (i - (u + 1)) = i by omega]
theorem A4W {t : A3} (h : K5 t) {i u : Nat} (hl : i < t.nodes.length) (hu : (t.at i).up = u) : ovr t i = ovr t u ||| Cy u := by
 have := h i hl
 rw [ovr, Tj, if_neg (by omega), hu, Int.toNat_natCast, ← A8S h (by omega) (i - (u + 1))]
 rw [show u + 1 + (i - (u + 1)) = i by omega]
theorem A5P {t : A3} {i : Nat} (hu : (t.at i).up < 0) : NV t i = 0 := by rw [NV, Sq, if_pos hu]
theorem A6X {t : A3} {i : Nat} (hu : (t.at i).up < 0) : ovr t i = 0#64 := by rw [ovr, Tj, if_pos hu]
theorem Hy {t : A3} (h : K5 t) (a : Int) {x : Int} (hx : x < t.nodes.length) : Ku t a t.nodes.length x = if x < 0 then false else if x = a then true else Ku t a t.nodes.length (t.at x.toNat).up := by
 rw [← RF h a t.nodes.length x hx hx, Ku]
theorem A8F (s r : BitVec 64) (x : Int) : BR (s ||| r) x = (BR s x || BR r x) := by
 unfold BR
 rw [BitVec.getLsbD_or]
 cases decide (0 ≤ x) <;> simp
theorem A6a (i : Nat) (x : Nat) (hx : x < 64) : BR (Cy i) (x : Int) = decide (x = i) := by
 rw [B0, CW]
 by_cases c : x = i
 ·rw [decide_eq_true c, decide_eq_true (by omega)]
 ·rw [decide_eq_false c, decide_eq_false (by omega)]
theorem Wx {t : A3} (h : K5 t) {a : Nat} (ha : a < 64) : ∀ (n b : Nat), b < n → b < t.nodes.length → BR (ovr t b) a = AE t a b ∧ (AE t a b = true → NV t a < NV t b) := by
 intro n
 induction n with
 | zero => intro b hb; omega
 | succ n ih =>
  intro b hb hl
  have hup := h b hl
  unfold AE
  by_cases c : (t.at b).up < 0
  ·rw [A6X c, Hy h a (by omega), if_pos c]
   exact ⟨by simp [BR], fun h => by cases h⟩
  ·obtain ⟨u, hu⟩ := Int.eq_ofNat_of_zero_le (show 0 ≤ (t.at b).up by omega)
   have hub : u < b := by omega
   obtain ⟨i1, i2⟩ := ih u (by omega) (by omega)
   unfold AE at i1 i2
   rw [A4W h hl hu, Z8 h hl hu, hu, Hy h a (by omega), if_neg (by omega), A8F, A6a _ _ ha, i1, Int.toNat_natCast]
   by_cases e : a = u
   ·subst e
    rw [if_pos rfl]
    exact ⟨by simp, fun _ => by omega⟩
   ·rw [if_neg (by omega), decide_eq_false e, Bool.or_false]
    exact ⟨rfl, fun h => by have := i2 h; omega⟩
theorem AaW {t : A3} (h : K5 t) : ∀ (n i : Nat), i < n → i < t.nodes.length → 0 ≤ NV t i ∧ NV t i ≤ i := by
 intro n
 induction n with
 | zero => intro i hi; omega
 | succ n ih =>
  intro i hi hl
  have hup := h i hl
  by_cases c : (t.at i).up < 0
  ·rw [A5P c]; omega
  ·obtain ⟨u, hu⟩ := Int.eq_ofNat_of_zero_le (show 0 ≤ (t.at i).up by omega)
   have := ih u (by omega) (by omega)
   rw [Z8 h hl hu]
   omega
def AbN (t : A3) : List Int := (List.range t.nodes.length).map (NV t)
def Aag (t : A3) : List (BitVec 64) := (List.range t.nodes.length).map (ovr t)
theorem LY {t : A3} {i : Nat} (h : i < t.nodes.length) : (AbN t)[i]? = some (NV t i) := by simp [AbN, h]
theorem A4L {t : A3} {i : Nat} (h : i < t.nodes.length) : (Aag t)[i]? = some (ovr t i) := by simp [Aag, h]
theorem Sy {t : A3} (h : K5 t) (hn : t.nodes.length ≤ 64) {a b : Nat} (ha : a < t.nodes.length) (hb : b < t.nodes.length) : (decide (NV t a < NV t b) && BR (ovr t b) a) = AE t a b := by
 obtain ⟨h1, h2⟩ := Wx h (a := a) (by omega) (b + 1) b (by omega) hb
 rw [h1]
 cases c : AE t a b with
 | false => simp
 | true => rw [decide_eq_true (h2 c)]; rfl
theorem A1e {α : Type} {n k j : Nat} {f : Nat → α} {z : α} (h : j < k) (hn : j < n) : (CH n k f z)[j]? = some (f j) := by
 simp [CH, hn, h]
theorem RO {α : Type} {n k : Nat} {f : Nat → α} {z : α} (h : f k = z) : CH n k f z = CH n (k + 1) f z := by
 unfold CH
 apply List.map_congr_left
 intro j hj
 by_cases e : j = k
 ·subst e; rw [if_neg (by omega), if_pos (by omega), h]
 ·by_cases c : j < k
  ·rw [if_pos c, if_pos (by omega)]
  ·rw [if_neg c, if_neg (by omega)]
end Go.AM

namespace Go.AM
open Go Go.Proofs
theorem A6e (j : Nat) (hj : j < 64) : ∀ (l : List Int) (s : BitVec 64), (l.foldl (fun s i => s ||| Cy i) s).getLsbD j = (s.getLsbD j || Bd l (j : Int)) := by
 intro l
 induction l with
 | nil => intro s; simp [Bd]
 | cons x l ih =>
  intro s
  rw [List.foldl_cons, ih, BitVec.getLsbD_or, CW]
  have e : Bd (x :: l) (j : Int) = (decide ((j : Int) = x) || Bd l (j : Int)) := rfl
  have e2 : decide ((j : Int) = x ∧ j < 64) = decide ((j : Int) = x) := by
   by_cases c : (j : Int) = x <;> simp [c, hj]
  rw [e, e2, Bool.or_assoc]
theorem NM (l : List Int) {x : Int} (h0 : 0 ≤ x) (h1 : x < 64) : BR (Cg l) x = Bd l x := by
 obtain ⟨j, rfl⟩ := Int.eq_ofNat_of_zero_le h0
 rw [B0, Cg, A6e j (by omega)]
 simp
theorem Hr {s : BitVec 64} {x : Int} (h : BR s x = true) : 0 ≤ x ∧ x < 64 := by
 simp only [BR, Bool.and_eq_true, decide_eq_true_eq] at h
 have := BitVec.lt_of_getLsbD h.2
 omega
/-- The numbers of a list that are nodes of a small tree. -/
def Co (t : A3) (l : List Int) : Prop := ∀ n ∈ l, BY t n = true
theorem Co.has {t : A3} (ht : t.nodes.length ≤ 64) {l : List Int} (h : Co t l) (x : Int) : BR (Cg l) x = Bd l x := by
 by_cases c : 0 ≤ x ∧ x < 64
 ·exact NM l c.1 c.2
 ·have e1 : BR (Cg l) x = false := by
   rw [← Bool.not_eq_true]
   exact fun h => c (Hr h)
  have e2 : Bd l x = false := by
   rw [← Bool.not_eq_true]
   intro h'
   obtain ⟨m, rfl, hm⟩ := Aj (h x (A7.1 h'))
   exact c ⟨by omega, by omega⟩
  rw [e1, e2]
def B6 (t : A3) (has : List Int) (n loc : Int) : Bool := Bd has n && Hx t n loc
def DM (t : A3) (l has : List Int) (loc : Int) (i : Nat) : Bool :=
 B6 t has (l.getD i 0) loc && decide (0 ≤ (t.at (l.getD i 0).toNat).thread) && Cs l i && (!decide (1 < l.length) || Cu (t.at (l.getD i 0).toNat)) && (decide (i = 0) || (l.take i).all fun m => AG t (l.getD i 0) m)
def E3 (t : A3) (l has : List Int) (loc : Int) : Bool := (List.range l.length).all (DM t l has loc) && decide (0 < l.length)
theorem Jy {l : List Int} {p : Int → Bool} : ∀ i, i ≤ l.length → (l.take i).all p = (List.range i).all fun k => p (l.getD k 0) := by
 intro i
 induction i with
 | zero => intro _; rfl
 | succ i ih =>
  intro h
  have hi : i < l.length := by omega
  have e := List.take_succ_eq_append_getElem hi
  have e2 : l.getD i 0 = l[i] := by rw [List.getD_eq_getElem?_getD, List.getElem?_eq_getElem hi]; rfl
  rw [e, List.all_append, ih (by omega), List.range_succ, List.all_append, ← e2]
  simp
theorem A3i (t : A3) (l has : List Int) (loc : Int) : E3 t l has loc = Cc t l has loc := by
 rw [Bool.eq_iff_iff]
 simp only [E3, Cc, Bool.and_eq_true, Bool.not_eq_true', decide_eq_true_eq, decide_eq_false_iff_not, Am]
 constructor
 ·rintro ⟨h1, h2⟩
  refine ⟨by omega, fun i hi => ?_⟩
  have := h1 i hi
  simp only [DM, B6, Bool.and_eq_true, Bool.or_eq_true, decide_eq_true_eq] at this
  obtain ⟨⟨⟨⟨⟨a, b⟩, c⟩, d⟩, e⟩, f⟩ := this
  simp only [Bl, Bool.and_eq_true, decide_eq_true_eq]
  refine ⟨⟨⟨⟨a, d⟩, b⟩, c⟩, ?_⟩
  rw [← Jy (p := fun m => AG t (l.getD i 0) m) i (by omega)]
  rcases f with rfl | f
  ·rfl
  ·exact f
 ·rintro ⟨h1, h2⟩
  refine ⟨fun i hi => ?_, by omega⟩
  have hp : 1 < l.length → Cu (t.at (l.getD i 0).toNat) = true := by
   intro hl
   by_cases i0 : i = 0
   ·subst i0
    have := h2 1 hl
    simp only [Bl, Bool.and_eq_true, Am] at this
    have := this.2 0 (by omega)
    simp only [AG, Bool.and_eq_true] at this
    exact this.1.1.2
   ·have := h2 i hi
    simp only [Bl, Bool.and_eq_true, Am] at this
    have := this.2 0 (by omega)
    simp only [AG, Bool.and_eq_true] at this
    exact this.1.1.1
  have := h2 i hi
  simp only [Bl, Bool.and_eq_true, decide_eq_true_eq] at this
  obtain ⟨⟨⟨⟨a, d⟩, b⟩, c⟩, f⟩ := this
  simp only [DM, B6, Bool.and_eq_true, Bool.or_eq_true, decide_eq_true_eq, Bool.not_eq_true', decide_eq_false_iff_not]
  refine ⟨⟨⟨⟨⟨a, b⟩, c⟩, d⟩, ?_⟩, .inr ?_⟩
  ·by_cases hl : 1 < l.length
   ·exact .inr (hp hl)
   ·exact .inl hl
  ·rw [Jy (p := fun m => AG t (l.getD i 0) m) i (by omega)]; exact f
/-- A location's writes, as they stand. -/
def Kx (m : List (List Int)) (loc : Nat) : List Int := (loc : Int) :: (m.drop 1).flatten
def EA (t : A3) (s : Ad) (loc : Nat) : Nat := (s.has.filter fun n => B6 t s.has n loc).length
def KJ (t : A3) (s : Ad) (loc : Nat) : Bool :=
 let m := s.mo.getD loc []
 !decide (m.length = 0) && decide (m.getD 0 [] = [(loc : Int)]) && (m.drop 1).all (fun c => E3 t c s.has loc) && decide ((Kx m loc).length = EA t s loc) && decide ((Bx (Cg (Kx m loc))).length = EA t s loc)
def DK (t : A3) (s : Ad) : Bool := decide (s.mo.length = t.locs.length) && (List.range s.mo.length).all (KJ t s)
def KG (t : A3) (s : Ad) : Bool := decide (s.jf.length = s.has.length) && (List.range s.has.length).all (EW t s)
end Go.AM

namespace Go.AM
open Go Go.Proofs
theorem JB : ∀ (l m : List Int), l.Nodup → (∀ x ∈ l, x ∈ m) → l.length ≤ m.length := by
 intro l
 induction l with
 | nil => intro m _ _; simp
 | cons x l ih =>
  intro m hn hs
  have hx := hs x List.mem_cons_self
  have h1 : x ∉ l := (List.nodup_cons.1 hn).1
  have := ih (m.erase x) (List.nodup_cons.1 hn).2 fun y hy => by
   have : y ≠ x := fun e => h1 (e ▸ hy)
   exact (List.mem_erase_of_ne this).2 (hs y (List.mem_cons_of_mem _ hy))
  rw [List.length_erase_of_mem hx] at this
  have : 0 < m.length := List.length_pos_of_mem hx
  simp only [List.length_cons]
  omega
theorem Aad {l m : List Int} (hn : l.Nodup) (hs : ∀ x ∈ l, x ∈ m) (hl : m.length ≤ l.length) : ∀ x ∈ m, x ∈ l := by
 intro x hx
 refine Classical.byContradiction fun hc => ?_
 have := JB l (m.erase x) hn fun y hy => (List.mem_erase_of_ne fun (e : y = x) => hc (e ▸ hy)).2 (hs y hy)
 rw [List.length_erase_of_mem hx] at this
 have : 0 < m.length := List.length_pos_of_mem hx
 omega
theorem AdD : ∀ (l S : List Int), S.Nodup → (∀ x ∈ S, x ∈ l) → l.length ≤ S.length → l.Nodup := by
 intro l
 induction l with
 | nil => intro S _ _ _; exact List.nodup_nil
 | cons x l ih =>
  intro S hn hs hl
  by_cases hx : x ∈ l
  ·have := JB S l hn fun y hy => by
    rcases List.mem_cons.1 (hs y hy) with rfl | h
    ·exact hx
    ·exact h
   simp only [List.length_cons] at hl
   omega
  ·refine List.nodup_cons.2 ⟨hx, ih (S.erase x) (hn.erase x) (fun y hy => ?_) ?_⟩
   ·rcases List.mem_cons.1 (hs y (List.mem_of_mem_erase hy)) with rfl | h
    ·exact absurd hy (List.Nodup.not_mem_erase hn)
    ·exact h
   ·rw [List.length_erase]
    simp only [List.length_cons] at hl
    split <;> omega
theorem Rt (n : Int) : ∀ (m : List (List Int)), (∀ c ∈ m, c.Nodup) → (m.filter fun c => Bd c n).length = m.flatten.count n := by
 intro m
 induction m with
 | nil => intro _; rfl
 | cons c m ih =>
  intro h
  have h1 := h c List.mem_cons_self
  have h2 := ih fun d hd => h d (List.mem_cons_of_mem _ hd)
  rw [List.flatten_cons, List.count_append, ← h2, List.filter_cons]
  cases e : Bd c n with
  | true =>
   have hm : n ∈ c := A7.1 e
   have := List.nodup_iff_count.1 h1 n
   have : 0 < c.count n := List.count_pos_iff.2 hm
   rw [if_pos rfl, List.length_cons]
   omega
  | false =>
   have hm : n ∉ c := fun h => by rw [A7.2 h] at e; cases e
   rw [List.count_eq_zero_of_not_mem hm]
   simp
theorem A9U {l : List Int} (h : ∀ i, i < l.length → Cs l i = true) : ∀ j, j < l.length → ∀ i, i < j → l.getD i 0 < l.getD j 0 := by
 intro j
 induction j with
 | zero => intro _ i hi; omega
 | succ j ih =>
  intro hj i hi
  have h1 := h (j + 1) hj
  simp only [Cs, Bool.or_eq_true, decide_eq_true_eq, Nat.add_sub_cancel] at h1
  have h2 : l.getD j 0 < l.getD (j + 1) 0 := by
   rcases h1 with h1 | h1
   ·omega
   ·exact h1
  by_cases e : i = j
  ·subst e; exact h2
  ·have := ih (by omega) i (by omega); omega
theorem Kr {l : List Int} (h : ∀ i, i < l.length → Cs l i = true) : l.Nodup := by
 rw [List.nodup_iff_pairwise_ne, List.pairwise_iff_getElem]
 intro i j hi hj hij e
 have := A9U h j hj i hij
 rw [List.getD_eq_getElem?_getD, List.getElem?_eq_getElem hi, List.getD_eq_getElem?_getD, List.getElem?_eq_getElem hj, Option.getD_some, Option.getD_some, e] at this
 omega
theorem Wa (w : BitVec 64) : (Bx w).Nodup := List.Nodup.sublist List.filter_sublist List.nodup_range
/-- The set of a list of small numbers, as a list. -/
theorem A66 {t : A3} (h64 : t.nodes.length ≤ 64) {l : List Int} (h : Co t l) (x : Int) : x ∈ (Bx (Cg l)).map (fun (j : Nat) => (j : Int)) ↔ x ∈ l := by
 constructor
 ·intro hx
  obtain ⟨j, hj, rfl⟩ := List.mem_map.1 hx
  obtain ⟨j1, j2⟩ := Ps hj
  have := h.has h64 (j : Int)
  rw [B0, j2] at this
  exact A7.1 this.symm
 ·intro hx
  obtain ⟨m, rfl, hm⟩ := Aj (h x hx)
  refine List.mem_map.2 ⟨m, Kd.2 ?_, rfl⟩
  have := h.has h64 (m : Int)
  rw [B0, A7.2 hx] at this
  exact this
theorem YU (w : BitVec 64) : ((Bx w).map fun (j : Nat) => (j : Int)).Nodup := by
 rw [List.nodup_iff_pairwise_ne, List.pairwise_map]
 have := List.nodup_iff_pairwise_ne.1 (Wa w)
 exact this.imp fun h e => h (by omega)
/-- All stand once, said in two ways. -/
theorem WE {t : A3} (h64 : t.nodes.length ≤ 64) {all W : List Int} (ha : Co t all) (hw : W.Nodup) (hs : ∀ x ∈ all, x ∈ W) :
  (all.length = W.length ∧ (Bx (Cg all)).length = W.length) ↔ ∀ n ∈ W, all.count n = 1 := by
 have hS := YU (Cg all)
 have hm := fun x => A66 h64 ha x
 have hl : ((Bx (Cg all)).map fun (j : Nat) => (j : Int)).length = (Bx (Cg all)).length := List.length_map ..
 generalize ((Bx (Cg all)).map fun (j : Nat) => (j : Int)) = S at *
 rw [← hl]
 constructor
 ·rintro ⟨h1, h2⟩ n hn
  have nd := AdD all S hS (fun x hx => (hm x).1 hx) (by omega)
  have hmem := Aad nd hs (by omega) n hn
  have c1 := List.nodup_iff_count.1 nd n
  have c2 : 0 < all.count n := List.count_pos_iff.2 hmem
  omega
 ·intro h
  have nd : all.Nodup := by
   rw [List.nodup_iff_count]
   intro x
   by_cases hx : x ∈ all
   ·rw [h x (hs x hx)]; exact Nat.le_refl _
   ·rw [List.count_eq_zero_of_not_mem hx]; omega
  have hmem : ∀ x ∈ W, x ∈ all := fun x hx => List.count_pos_iff.1 (by rw [h x hx]; decide)
  have a1 := JB all W nd hs
  have a2 := JB W all hw hmem
  have a3 := JB all S nd fun x hx => (hm x).2 hx
  have a4 := JB S all hS fun x hx => (hm x).1 hx
  omega
end Go.AM

namespace Go.AM
open Go Go.Proofs
theorem Lw {t : A3} {l : List Int} (h : BO t l = true) : Co t l ∧ l.Nodup ∧ (GY t ||| Cg l = Cg l) := by
 simp only [BO, Bool.and_eq_true, decide_eq_true_eq] at h
 have hr := Am.1 h.1
 refine ⟨fun n hn => ?_, Kr fun i hi => ?_, h.2⟩
 ·obtain ⟨k, hk, rfl⟩ := List.mem_iff_getElem.1 hn
  have := hr k hk
  simp only [BL, Bool.and_eq_true] at this
  have := this.1.1
  rw [List.getD_eq_getElem?_getD, List.getElem?_eq_getElem hk] at this
  exact this
 ·have := hr i hi
  simp only [BL, Bool.and_eq_true] at this
  exact this.1.2
theorem A9b {t : A3} (ht : A8 t) {l : List Int} (h : BO t l = true) {k : Nat} (hk : k < t.locs.length) : (k : Int) ∈ l := by
 obtain ⟨hn, _, hi⟩ := Lw h
 have hkn : k < t.nodes.length := Nat.lt_of_lt_of_le hk ht.first.1
 have h64 := ht.n64
 have e : (GY t).getLsbD k = true := by
  unfold GY
  rw [AA, decide_eq_true hkn, (ht.init k hk).up, decide_eq_true (show k < 64 by omega)]; rfl
 have e2 : (Cg l).getLsbD k = true := by rw [← hi, BitVec.getLsbD_or, e]; rfl
 have := hn.has h64 (k : Int)
 rw [B0, e2] at this
 exact A7.1 this.symm
theorem Tc {t : A3} {l has : List Int} {loc : Int} (h : Cc t l has loc = true) : l.Nodup ∧ ∀ n ∈ l, B6 t has n loc = true := by
 simp only [Cc, Bool.and_eq_true] at h
 have hr := Am.1 h.2
 refine ⟨Kr fun i hi => ?_, fun n hn => ?_⟩
 ·have := hr i hi
  simp only [Bl, Bool.and_eq_true] at this
  exact this.1.1.1.2
 ·obtain ⟨k, hk, rfl⟩ := List.mem_iff_getElem.1 hn
  have := hr k hk
  simp only [Bl, Bool.and_eq_true] at this
  have h1 := this.1.1.1.1
  have h2 := this.1.1.2
  rw [List.getD_eq_getElem?_getD, List.getElem?_eq_getElem hk, Option.getD_some] at h1 h2
  simp only [B6, Bool.and_eq_true]
  exact ⟨h1, h2⟩
theorem VI {t : A3} {s : Ad} {k : Nat} : DR t s k = true ↔ ∃ D, s.mo.getD k [] = [(k : Int)] :: D ∧ ∀ c ∈ D, Cc t c s.has k = true := by
 simp only [DR, Bool.and_eq_true, Bool.not_eq_true', decide_eq_false_iff_not, decide_eq_true_eq, Am, Bool.or_eq_true]
 generalize s.mo.getD k [] = m
 constructor
 ·rintro ⟨⟨h1, h2⟩, h3⟩
  rcases m with _ | ⟨c, D⟩
  ·simp at h1
  ·refine ⟨D, by rw [show c = [(k : Int)] from h2], fun d hd => ?_⟩
   obtain ⟨j, hj, rfl⟩ := List.mem_iff_getElem.1 hd
   have := h3 (j + 1) (by simp; omega)
   rcases this with h | h
   ·omega
   ·simpa [List.getD_eq_getElem?_getD, hj] using h
 ·rintro ⟨D, rfl, h⟩
  refine ⟨⟨by simp, rfl⟩, fun i hi => ?_⟩
  rcases i with _ | i
  ·exact .inl rfl
  ·refine .inr ?_
   have hi' : i < D.length := by simpa using hi
   have := h D[i] (List.getElem_mem hi')
   simpa [List.getD_eq_getElem?_getD, hi'] using this
theorem QC {t : A3} {s : Ad} {k : Nat} : KJ t s k = true ↔ ∃ D, s.mo.getD k [] = [(k : Int)] :: D ∧ (∀ c ∈ D, Cc t c s.has k = true) ∧ ((s.mo.getD k []).flatten.length = EA t s k ∧ (Bx (Cg (s.mo.getD k []).flatten)).length = EA t s k) := by
 simp only [KJ, Bool.and_eq_true, Bool.not_eq_true', decide_eq_false_iff_not, decide_eq_true_eq, List.all_eq_true, A3i]
 generalize s.mo.getD k [] = m
 constructor
 ·rintro ⟨⟨⟨⟨h1, h2⟩, h3⟩, h4⟩, h5⟩
  rcases m with _ | ⟨c, D⟩
  ·simp at h1
  ·have e : c = [(k : Int)] := h2
   subst e
   exact ⟨D, rfl, h3, h4, h5⟩
 ·rintro ⟨D, rfl, h3, h4, h5⟩
  exact ⟨⟨⟨⟨by simp, rfl⟩, h3⟩, h4⟩, h5⟩
theorem A22 {t : A3} (ht : A8 t) {s : Ad} (hn : BO t s.has = true) {i : Nat} (hi : i < s.has.length) : JH t s i = true ↔ ((t.at (s.has.getD i 0).toNat).kind = 3 → ((s.mo.getD (t.at (s.has.getD i 0).toNat).loc.toNat []).filter fun c => Bd c (s.has.getD i 0)).length = 1) := by
 simp only [JH, Bool.or_eq_true, Bool.not_eq_true', decide_eq_false_iff_not, decide_eq_true_eq]
 constructor
 ·rintro (h | h) k
  ·exact absurd k h
  ·exact h
 ·intro h
  by_cases k : (t.at (s.has.getD i 0).toNat).kind = 3
  ·exact .inr (h k)
  ·exact .inl k
theorem AaT (t : A3) (ht : A8 t) (s : Ad) : (BO t s.has && KG t s && DK t s) = BX t s := by
 cases hn : BO t s.has with
 | false => simp [BX, hn]
 | true =>
 obtain ⟨hN, hnd, _⟩ := Lw hn
 have h64 := ht.n64
 by_cases hm : ¬ s.mo.length = t.locs.length
 ·simp [BX, DK, hm]
 have hm := Decidable.not_not.1 hm
 rw [Bool.eq_iff_iff]
 simp only [BX, DK, KG, hn, decide_eq_true hm, Bool.true_and, Bool.and_true, Bool.and_eq_true, decide_eq_true_eq]
 have key : (∀ k, k < s.mo.length → KJ t s k = true) ↔ ((∀ k, k < s.mo.length → DR t s k = true) ∧ ∀ i, i < s.has.length → JH t s i = true) := by
  have W : ∀ k, k < s.mo.length → ∀ D, s.mo.getD k [] = [(k : Int)] :: D → (∀ c ∈ D, Cc t c s.has k = true) →
    (((s.mo.getD k []).flatten.length = EA t s k ∧ (Bx (Cg (s.mo.getD k []).flatten)).length = EA t s k) ↔ ∀ n ∈ s.has, B6 t s.has n k = true → ((s.mo.getD k []).filter fun c => Bd c n).length = 1) := by
   intro k hk D hD hc
   have hk' : k < t.locs.length := by omega
   have hin := A9b ht hn hk'
   have hwk : B6 t s.has k k = true := by
    simp only [B6, Hx, Bool.and_eq_true, decide_eq_true_eq, Int.toNat_natCast]
    exact ⟨A7.2 hin, (ht.init k hk').kind, (ht.init k hk').loc⟩
   have hcw : ∀ c ∈ s.mo.getD k [], c.Nodup ∧ ∀ n ∈ c, B6 t s.has n k = true := by
    intro c hcm
    rw [hD] at hcm
    rcases List.mem_cons.1 hcm with rfl | h
    ·refine ⟨by simp, fun n hn => ?_⟩
     rw [List.mem_singleton.1 hn]; exact hwk
    ·exact Tc (hc c h)
   have hsub : ∀ x ∈ (s.mo.getD k []).flatten, x ∈ s.has.filter fun n => B6 t s.has n k := by
    intro x hx
    obtain ⟨c, hc1, hc2⟩ := List.mem_flatten.1 hx
    have := (hcw c hc1).2 x hc2
    refine List.mem_filter.2 ⟨?_, this⟩
    simp only [B6, Bool.and_eq_true] at this
    exact A7.1 this.1
   have hNa : Co t (s.mo.getD k []).flatten := fun x hx => hN x (List.mem_filter.1 (hsub x hx)).1
   have := WE h64 (W := s.has.filter fun n => B6 t s.has n k) hNa (List.Nodup.sublist List.filter_sublist hnd) hsub
   rw [show EA t s k = (s.has.filter fun n => B6 t s.has n k).length from rfl, this]
   constructor
   ·intro h n hn1 hn2
    rw [Rt n _ fun c hc => (hcw c hc).1]
    exact h n (List.mem_filter.2 ⟨hn1, hn2⟩)
   ·intro h n hn1
    obtain ⟨a, b⟩ := List.mem_filter.1 hn1
    rw [← Rt n _ fun c hc => (hcw c hc).1]
    exact h n a b
  constructor
  ·intro h
   refine ⟨fun k hk => ?_, fun i hi => ?_⟩
   ·obtain ⟨D, hD, hc, _⟩ := QC.1 (h k hk)
    exact VI.2 ⟨D, hD, hc⟩
   ·rw [A22 ht hn hi]
    intro k3
    have hmem : s.has.getD i 0 ∈ s.has := Aq hi
    obtain ⟨m, hm1, hm2⟩ := Aj (hN _ hmem)
    rw [hm1, Int.toNat_natCast] at k3 ⊢
    obtain ⟨l1, l2⟩ := ht.wloc hm2 (.inr k3)
    obtain ⟨lc, hlc⟩ := Int.eq_ofNat_of_zero_le l1
    rw [hlc, Int.toNat_natCast]
    have hk : lc < s.mo.length := by omega
    obtain ⟨D, hD, hc, hl⟩ := QC.1 (h lc hk)
    refine (W lc hk D hD hc).1 hl m (hm1 ▸ hmem) ?_
    simp only [B6, Hx, Bool.and_eq_true, decide_eq_true_eq, Int.toNat_natCast]
    exact ⟨A7.2 (hm1 ▸ hmem), k3, hlc⟩
  ·rintro ⟨h1, h2⟩ k hk
   obtain ⟨D, hD, hc⟩ := VI.1 (h1 k hk)
   refine QC.2 ⟨D, hD, hc, (W k hk D hD hc).2 fun n hn1 hn2 => ?_⟩
   obtain ⟨i, hi, rfl⟩ := List.mem_iff_getElem.1 hn1
   have e : s.has.getD i 0 = s.has[i] := by rw [List.getD_eq_getElem?_getD, List.getElem?_eq_getElem hi]; rfl
   have := (A22 ht hn hi).1 (h2 i hi)
   rw [e] at this
   simp only [B6, Hx, Bool.and_eq_true, decide_eq_true_eq] at hn2
   have h3 := this hn2.2.1
   rw [hn2.2.2, Int.toNat_natCast] at h3
   exact h3
 rw [Am, Am (n := s.mo.length), key, Am, Am]
 constructor
 ·rintro ⟨⟨a, b⟩, c, d⟩; exact ⟨⟨⟨a, b⟩, c⟩, d⟩
 ·rintro ⟨⟨⟨a, b⟩, c⟩, d⟩; exact ⟨⟨a, b⟩, c, d⟩
end Go.AM

namespace Go.AM
open Go Go.Proofs
/-- A relation of nodes, as rows. -/
def Bc (n : Nat) (p : Nat → Nat → Bool) : Rows := (List.range n).map fun a => BA fun b => decide (b < n) && p a b
theorem CC {n : Nat} {p : Nat → Nat → Bool} : (Bc n p).length = n := by simp [Bc]
theorem G9 {n : Nat} {p : Nat → Nat → Bool} {a : Nat} (h : a < n) : (Bc n p)[a]? = some (BA fun b => decide (b < n) && p a b) := by simp [Bc, h]
theorem Vv {n : Nat} {p : Nat → Nat → Bool} {a b : Nat} (hn : n ≤ 64) (h : a < n) (hb : b < n) : BR ((Bc n p).getD a 0#64) (b : Int) = p a b := by
 rw [List.getD_eq_getElem?_getD, G9 h, Option.getD_some, B0, AA, decide_eq_true hb, decide_eq_true (show b < 64 by omega)]
 simp
def Ka (t : A3) (x f : List Int) (i : Nat) : Bool :=
 if (t.at (x.getD i 0).toNat).kind = 2 then Bd x (f.getD i 0) && Hx t (f.getD i 0) (t.at (x.getD i 0).toNat).loc else decide (f.getD i 0 = -1)
def Ca (t : A3) (x : List Int) (i : Nat) : Bool := BY t (x.getD i 0) && Cs x i
def El (t : A3) (x f : List Int) : Bool := decide (x.length = f.length) && (List.range x.length).all (Ca t x) && (List.range x.length).all (Ka t x f)
def HC (x f : List Int) (n : Int) : Int := if Bd x n then f.getD (Eh x n).toNat 0 else -1
structure CY (t : A3) (x f : List Int) : Prop where
 len : x.length = f.length
 node : Co t x
 nd : x.Nodup
 at_ : ∀ i, i < x.length → HC x f (x.getD i 0) = f.getD i 0
 read : ∀ n, n ∈ x → (t.at n.toNat).kind = 2 → HC x f n ∈ x ∧ (t.at (HC x f n).toNat).kind = 3 ∧ (t.at (HC x f n).toNat).loc = (t.at n.toNat).loc
 none : ∀ n, n ∈ x → (t.at n.toNat).kind ≠ 2 → HC x f n = -1
theorem A0c {x : List Int} (h : x.Nodup) {i : Nat} (hi : i < x.length) : Eh x (x.getD i 0) = i := by
 have hm : Bd x (x.getD i 0) = true := A7.2 (Aq hi)
 obtain ⟨k, e, hk, h1, h2⟩ := DF hm
 rw [e]
 have : k = i := by
  rw [List.getD_eq_getElem?_getD, List.getD_eq_getElem?_getD, List.getElem?_eq_getElem hk, List.getElem?_eq_getElem hi] at h1
  rw [Option.getD_some, Option.getD_some] at h1
  rcases Nat.lt_trichotomy k i with c | c | c
  ·exact absurd h1 (List.pairwise_iff_getElem.1 h k i hk hi c)
  ·exact c
  ·exact absurd h1.symm (List.pairwise_iff_getElem.1 h i k hi hk c)
 rw [this]
theorem Gd {t : A3} {x f : List Int} (h : El t x f = true) : CY t x f := by
 simp only [El, Bool.and_eq_true, decide_eq_true_eq, Am, Ca] at h
 obtain ⟨⟨h1, h2⟩, h3⟩ := h
 have hnode : Co t x := by
  intro n hn
  obtain ⟨i, hi, rfl⟩ := List.getElem_of_mem hn
  have := (h2 i hi).1
  rwa [List.getD_eq_getElem?_getD, List.getElem?_eq_getElem hi] at this
 have hnd : x.Nodup := Kr fun i hi => (h2 i hi).2
 have hat : ∀ i, i < x.length → HC x f (x.getD i 0) = f.getD i 0 := by
  intro i hi
  unfold HC
  rw [if_pos (A7.2 (Aq hi)), A0c hnd hi, Int.toNat_natCast]
 refine ⟨h1, hnode, hnd, hat, ?_, ?_⟩
 ·intro n hn hk
  obtain ⟨i, hi, rfl⟩ := List.getElem_of_mem hn
  have e : x[i] = x.getD i 0 := by rw [List.getD_eq_getElem?_getD, List.getElem?_eq_getElem hi]; rfl
  have h3i := h3 i hi
  rw [e] at hk ⊢
  rw [hat i hi]
  simp only [Ka, hk, if_true, Bool.and_eq_true, Hx, decide_eq_true_eq, A7] at h3i
  exact ⟨h3i.1, h3i.2.1, h3i.2.2⟩
 ·intro n hn hk
  obtain ⟨i, hi, rfl⟩ := List.getElem_of_mem hn
  have e : x[i] = x.getD i 0 := by rw [List.getD_eq_getElem?_getD, List.getElem?_eq_getElem hi]; rfl
  have h3i := h3 i hi
  rw [e] at hk ⊢
  rw [hat i hi]
  simp only [Ka, hk, if_false, decide_eq_true_eq] at h3i
  exact h3i
def Xz (t : A3) (x f : List Int) (w : Int) : Int := if (t.at w.toNat).rmw = true ∧ Bd x (t.at w.toNat).up = true then HC x f (t.at w.toNat).up else -1
def A6b (t : A3) (x : List Int) (w : Int) (n : Nat) : Bool := (decide ((n : Int) = w) && M3 (t.at n)) || (Bd x (n : Int) && decide ((t.at n).kind = 4) && M3 (t.at n) && AD t n w)
def M8 (t : A3) (x : List Int) (w : Int) : BitVec 64 := BA (A6b t x w)
/-- Does the way end here? -/
def LZ (t : A3) (w : Int) : Bool := decide (w < 0) || decide ((t.at w.toNat).thread < 0)
def W5 (t : A3) (x f : List Int) : Nat → Int → BitVec 64
 | 0, _ => 0#64
 | k + 1, w => if LZ t w = true then 0#64 else M8 t x w ||| W5 t x f k (Xz t x f w)
def BN (t : A3) (x f : List Int) (w : Int) : BitVec 64 := W5 t x f (x.length + 1) w
def Dm (t : A3) (x f : List Int) : Nat → Int → Int
 | 0, w => w
 | k + 1, w => Xz t x f (Dm t x f k w)
theorem JT (t : A3) (x f : List Int) : ∀ (k : Nat) (w : Int), Dm t x f (k + 1) w = Dm t x f k (Xz t x f w)
 | 0, w => rfl
 | k + 1, w => by rw [Dm, JT t x f k w]; rfl
theorem DX (t : A3) (x f : List Int) (b : Nat) : ∀ (k : Nat) (w : Int), (W5 t x f k w).getLsbD b = true ↔ ∃ j, j < k ∧ (∀ i, i ≤ j → LZ t (Dm t x f i w) = false) ∧ (M8 t x (Dm t x f j w)).getLsbD b = true
 | 0, w => by simp [W5]
 | k + 1, w => by
  rw [W5]
  by_cases c : LZ t w = true
  ·rw [if_pos c]
   constructor
   ·intro h; simp at h
   ·rintro ⟨j, _, h, _⟩
    have := h 0 (Nat.zero_le _)
    rw [Dm, c] at this; cases this
  ·rw [if_neg c, BitVec.getLsbD_or, Bool.or_eq_true, DX t x f b k]
   constructor
   ·rintro (h | ⟨j, h1, h2, h3⟩)
    ·exact ⟨0, by omega, fun i hi => by rw [Nat.le_zero.1 hi]; exact Bool.eq_false_iff.2 c, h⟩
    ·refine ⟨j + 1, by omega, fun i hi => ?_, by rw [JT]; exact h3⟩
     rcases i with _ | i
     ·exact Bool.eq_false_iff.2 c
     ·rw [JT]; exact h2 i (by omega)
   ·rintro ⟨j, h1, h2, h3⟩
    rcases j with _ | j
    ·exact .inl h3
    ·refine .inr ⟨j, by omega, fun i hi => ?_, by rw [JT] at h3; exact h3⟩
     have := h2 (i + 1) (by omega)
     rwa [JT] at this
/-- The union over the first so many of the way. -/
def Pw (t : A3) (x f : List Int) (w : Int) (i : Nat) : BitVec 64 := (List.range i).foldl (fun s j => s ||| M8 t x (Dm t x f j w)) 0#64
theorem YY (t : A3) (x f : List Int) (w : Int) (i : Nat) : Pw t x f w (i + 1) = Pw t x f w i ||| M8 t x (Dm t x f i w) := by
 unfold Pw
 rw [List.range_succ, List.foldl_append]
 rfl
theorem RS (t : A3) (x f : List Int) (w : Int) (b : Nat) (i : Nat) : (Pw t x f w i).getLsbD b = true ↔ ∃ j, j < i ∧ (M8 t x (Dm t x f j w)).getLsbD b = true := by
 unfold Pw
 rw [UC]
 simp [List.any_eq_true]
/-- The way that has been gone. -/
def Jn (t : A3) (x f : List Int) (w : Int) (i : Nat) : List Int := (List.range i).map fun j => Dm t x f j w
theorem Rw (t : A3) (x f : List Int) (w : Int) (i : Nat) : Jn t x f w (i + 1) = Jn t x f w i ++ [Dm t x f i w] := by
 unfold Jn
 rw [List.range_succ, List.map_append]
 rfl
theorem NN {t : A3} {x f : List Int} {w : Int} {i : Nat} {v : Int} : v ∈ Jn t x f w i ↔ ∃ j, j < i ∧ Dm t x f j w = v := by
 simp [Jn]
theorem A1S {t : A3} (ht : A8 t) {x f : List Int} (h : CY t x f) {w : Int} (hw : w ∈ x) : Xz t x f w = -1 ∨ (Xz t x f w ∈ x ∧ (t.at (Xz t x f w).toNat).kind = 3) := by
 unfold Xz
 by_cases c : (t.at w.toNat).rmw = true ∧ Bd x (t.at w.toNat).up = true
 ·rw [if_pos c]
  obtain ⟨m, rfl, hm⟩ := Aj (h.node w hw)
  rw [Int.toNat_natCast] at c ⊢
  have hl : t.locs.length ≤ m := by
   rcases Nat.lt_or_ge m t.locs.length with h1 | h1
   ·have := ht.first.2 m h1
    simp only [HK, Bool.and_eq_true] at this
    have h3 := this.1.1.2
    rw [c.1] at h3; cases h3
   ·exact h1
  obtain ⟨_, k2⟩ := (ht.good m hl hm).rmw c.1
  obtain ⟨r1, r2, _⟩ := h.read _ (A7.1 c.2) k2
  exact .inr ⟨r1, r2⟩
 ·rw [if_neg c]; exact .inl rfl
theorem L3 {t : A3} (ht : A8 t) {x f : List Int} (h : CY t x f) {w : Int} (hw : w ∈ x) : ∀ (i : Nat), (∀ j, j < i → LZ t (Dm t x f j w) = false) → Dm t x f i w = -1 ∨ Dm t x f i w ∈ x
 | 0, _ => .inr hw
 | i + 1, hi => by
  rcases L3 ht h hw i (fun j hj => hi j (by omega)) with e | e
  ·have := hi i (by omega)
   rw [e] at this; cases this
  ·rcases A1S ht h e with e | e
   ·exact .inl e
   ·exact .inr e.1
/-- What the program's walk comes to. -/
theorem A7S {t : A3} (ht : A8 t) {x f : List Int} (h : CY t x f) {w : Int} (hw : w ∈ x) {i : Nat} (hoff : ∀ j, j < i → LZ t (Dm t x f j w) = false) (hnd : (Jn t x f w i).Nodup)
  (he : LZ t (Dm t x f i w) = true ∨ Dm t x f i w ∈ Jn t x f w i) : Pw t x f w i = BN t x f w := by
 have hil : i ≤ x.length := by
  have h1 : (Jn t x f w i).length = i := by simp [Jn]
  rw [← h1]
  refine JB _ _ hnd fun v hv => ?_
  obtain ⟨j, hj, rfl⟩ := NN.1 hv
  rcases L3 ht h hw j (fun k hk => hoff k (by omega)) with e | e
  ·have := hoff j hj
   rw [e] at this; cases this
  ·exact e
 apply Sub.anti
 ·intro b hb
  obtain ⟨j, hj, h1⟩ := (RS _ _ _ _ _ _).1 hb
  exact (DX _ _ _ _ _ _).2 ⟨j, by omega, fun k hk => hoff k (by omega), h1⟩
 ·intro b hb
  obtain ⟨j, hj, h1, h2⟩ := (DX _ _ _ _ _ _).1 hb
  have key : ∀ j, (∀ k, k ≤ j → LZ t (Dm t x f k w) = false) → ∃ j', j' < i ∧ Dm t x f j' w = Dm t x f j w := by
   intro j
   induction j with
   | zero =>
    intro hk
    rcases Nat.eq_zero_or_pos i with e | e
    ·subst e
     rcases he with he | he
     ·rw [hk 0 (Nat.le_refl _)] at he; cases he
     ·simp [Jn] at he
    ·exact ⟨0, e, rfl⟩
   | succ j ih =>
    intro hk
    obtain ⟨j', h3, h4⟩ := ih fun k hk' => hk k (by omega)
    have e5 : Dm t x f (j' + 1) w = Dm t x f (j + 1) w := by rw [Dm, Dm, h4]
    rcases Nat.lt_or_ge (j' + 1) i with h5 | h5
    ·exact ⟨j' + 1, h5, e5⟩
    ·have e6 : j' + 1 = i := by omega
     rw [e6] at e5
     rcases he with he | he
     ·rw [e5, hk (j + 1) (Nat.le_refl _)] at he; cases he
     ·obtain ⟨j3, h6, h7⟩ := NN.1 he
      exact ⟨j3, h6, h7.trans e5⟩
  obtain ⟨j', h3, h4⟩ := key j h1
  exact (RS _ _ _ _ _ _).2 ⟨j', h3, by rw [h4]; exact h2⟩
def HX (t : A3) (x : List Int) (r : Int) (n : Nat) : Bool := (decide ((n : Int) = r) && LV (t.at n)) || (Bd x (n : Int) && decide ((t.at n).kind = 4) && LV (t.at n) && AD t r n)
def Kw (t : A3) (x f : List Int) (r : Int) : Bool := decide ((t.at r.toNat).kind = 2) && !decide ((t.at (HC x f r).toNat).thread = (t.at r.toNat).thread)
def swB (t : A3) (x f : List Int) (a b : Nat) : Bool := x.any fun r => Kw t x f r && BR (BN t x f (HC x f r)) (a : Int) && HX t x r b
def Lm (t : A3) (x f : List Int) (a b : Nat) : Bool := (Bd x (a : Int) && Bd x (b : Int) && AD t a b) || swB t x f a b
def Ns (t : A3) (x f : List Int) : Rows := GL (Bc t.nodes.length (Lm t x f))
theorem Jw {n : Nat} (hn : n ≤ 64) (p : Nat → Nat → Bool) : DQ (Bc n p) = true := by
 simp only [DQ, Bool.and_eq_true, decide_eq_true_eq, List.all_eq_true, CC]
 refine ⟨hn, fun r hr => ?_⟩
 obtain ⟨a, ha, rfl⟩ := List.mem_map.1 hr
 apply C1
 intro j hj
 rw [BitVec.getLsbD_and, BitVec.getLsbD_not, AA, Eu, AA]
 by_cases c : j < n
 ·simp [c, hj]
 ·simp [c]
theorem HS {n : Nat} {p : Nat → Nat → Bool} {a : Nat} (h : a < n) : (Bc n p).getD a 0#64 = BA fun b => decide (b < n) && p a b := by
 rw [List.getD_eq_getElem?_getD, G9 h, Option.getD_some]
theorem DZ {n : Nat} {p q : Nat → Nat → Bool} (h : ∀ a b, a < n → b < n → p a b = q a b) : Bc n p = Bc n q := by
 unfold Bc
 apply List.map_congr_left
 intro a ha
 apply BP
 intro b _
 by_cases c : b < n
 ·rw [h a b (List.mem_range.1 ha) c]
 ·simp [c]
theorem A5S {n : Nat} (hn : n ≤ 64) (p q : Nat → Nat → Bool) : orF (Bc n p) (Bc n q) = Bc n fun a b => p a b || q a b := by
 unfold orF
 rw [Jw hn, Jw hn, CC, CC]
 simp only [decide_true, Bool.and_self, if_true]
 apply List.map_congr_left
 intro a ha
 have h := List.mem_range.1 ha
 rw [HS h, HS h]
 apply C1
 intro j hj
 rw [BitVec.getLsbD_or, AA, AA, AA]
 cases decide (j < n) <;> cases decide (j < 64) <;> simp
theorem Yl {n : Nat} (hn : n ≤ 64) (p : Nat → Nat → Bool) (s : BitVec 64) : VY (Bc n p) s = Bc n fun a b => BR s a && BR s b && p a b := by
 unfold VY
 rw [Jw hn, CC]
 simp only [if_true]
 apply List.map_congr_left
 intro a ha
 have h := List.mem_range.1 ha
 rw [HS h]
 cases c : BR s (a : Int) with
 | false =>
  simp only [Bool.false_and, Bool.and_false, Bool.false_eq_true, if_false, c]
  exact Hn.symm
 | true =>
  simp only [if_true, Bool.true_and, c]
  apply C1
  intro j hj
  rw [BitVec.getLsbD_and, AA, AA]
  simp only [B0]
  cases decide (j < n) <;> cases decide (j < 64) <;> cases s.getLsbD j <;> simp
end Go.AM

namespace Go.AM
open Go Go.Proofs
theorem E9 {s : BitVec 64} {x : Int} : x ∈ AK s ↔ BR s x = true := by
 unfold AK
 rw [List.mem_map]
 constructor
 ·rintro ⟨i, hi, rfl⟩
  rw [B0]; exact Kd.1 hi
 ·intro h
  obtain ⟨h1, h2⟩ := Hr h
  obtain ⟨m, rfl⟩ := Int.eq_ofNat_of_zero_le h1
  rw [B0] at h
  exact ⟨m, Kd.2 h, rfl⟩
theorem Co.list {t : A3} (ht : t.nodes.length ≤ 64) {l : List Int} (h : Co t l) (x : Int) : x ∈ AK (Cg l) ↔ x ∈ l := by
 rw [E9, h.has ht, A7]
/-- A set that is put together by going through a list. -/
def Ef (p : Int → Bool) (s : BitVec 64) (l : List Int) : BitVec 64 := l.foldl (fun s n => if p n = true then s ||| Cy n else s) s
theorem S1 (p : Int → Bool) (j : Nat) (hj : j < 64) : ∀ (l : List Int) (s : BitVec 64), (Ef p s l).getLsbD j = (s.getLsbD j || (Bd l (j : Int) && p (j : Int))) := by
 intro l
 induction l with
 | nil => intro s; simp [Ef, Bd]
 | cons x l ih =>
  intro s
  show (Ef p (if p x = true then s ||| Cy x else s) l).getLsbD j = _
  rw [ih]
  have e : Bd (x :: l) (j : Int) = (decide ((j : Int) = x) || Bd l (j : Int)) := rfl
  rw [e]
  by_cases c : (j : Int) = x
  ·subst c
   cases hp : p (j : Int) with
   | false => simp
   | true =>
    rw [if_pos rfl, BitVec.getLsbD_or, CW]
    simp [hj]
  ·have : (Cy x).getLsbD j = false := by rw [CW]; simp [c]
   by_cases hp : p x = true
   ·rw [if_pos hp, BitVec.getLsbD_or, this]; simp [c]
   ·rw [if_neg hp]; simp [c]
theorem Q0 {p : Int → Bool} {s : BitVec 64} {l : List Int} {k : Nat} (hk : k < l.length) : Ef p s (l.take (k + 1)) = if p (l.getD k 0) = true then Ef p s (l.take k) ||| Cy (l.getD k 0) else Ef p s (l.take k) := by
 unfold Ef
 rw [List.take_succ_eq_append_getElem hk, List.foldl_append, List.getD_eq_getElem?_getD, List.getElem?_eq_getElem hk]
 rfl
/-- One row of a relation is widened. -/
theorem A56 {n a : Nat} (ha : a < n) (p : Nat → Nat → Bool) (q : Nat → Bool) (hq : ∀ b, q b = true → b < n) : (Bc n p).set a ((Bc n p).getD a 0#64 ||| BA q) = Bc n fun i b => p i b || (decide (i = a) && q b) := by
 apply List.ext_getElem
 ·simp [Bc]
 ·intro i h1 h2
  have hi : i < n := by simpa [Bc] using h2
  rw [List.getElem_set]
  by_cases c : a = i
  ·subst c
   rw [if_pos rfl, HS ha]
   have : (Bc n fun i b => p i b || (decide (i = a) && q b))[a] = BA fun b => decide (b < n) && (p a b || (decide (a = a) && q b)) := by simp [Bc]
   rw [this]
   apply C1
   intro j hj
   rw [BitVec.getLsbD_or, AA, AA, AA]
   cases hqj : q j with
   | false => simp
   | true => have := hq j hqj; simp [this, hj]
  ·rw [if_neg c]
   have c' : ¬ i = a := fun e => c e.symm
   have e1 : (Bc n p)[i]'(by simpa [Bc] using hi) = BA fun b => decide (b < n) && p i b := by simp [Bc]
   have e2 : (Bc n fun i b => p i b || (decide (i = a) && q b))[i] = BA fun b => decide (b < n) && (p i b || (decide (i = a) && q b)) := by simp [Bc]
   rw [e1, e2]
   apply BP
   intro j _
   simp [c']
theorem A3t (n : Nat) : Bc n (fun _ _ => false) = List.replicate n 0#64 := by
 apply List.ext_getElem
 ·simp [Bc]
 ·intro i h1 h2
  simp only [Bc, List.getElem_map, List.getElem_replicate, Bool.and_false]
  exact Hn
/-- What is known, one by one, of what an event has from, as the program asks it. -/
def onL (t : A3) (x f : List Int) : List Int := (List.range t.nodes.length).map fun (n : Nat) => HC x f (n : Int)
theorem NH {t : A3} {x f : List Int} : (onL t x f).length = t.nodes.length := by simp [onL]
theorem HF {t : A3} {x f : List Int} {n : Nat} (h : n < t.nodes.length) : (onL t x f)[n]? = some (HC x f (n : Int)) := by simp [onL, h]
def J7 (t : A3) (x f : List Int) (n : Int) : Bool := if (t.at n.toNat).kind = 2 then Bd x (HC x f n) && Hx t (HC x f n) (t.at n.toNat).loc else decide (HC x f n = -1)
theorem UW (t : A3) (x f : List Int) : El t x f = (decide (x.length = f.length) && (List.range x.length).all (Ca t x) && (List.range x.length).all fun i => J7 t x f (x.getD i 0)) := by
 unfold El
 by_cases h1 : (decide (x.length = f.length) && (List.range x.length).all (Ca t x)) = true
 ·rw [h1, Bool.true_and, Bool.true_and]
  simp only [Bool.and_eq_true, decide_eq_true_eq, Am, Ca] at h1
  have hnd : x.Nodup := Kr fun i hi => (h1.2 i hi).2
  have hat : ∀ i, i < x.length → HC x f (x.getD i 0) = f.getD i 0 := by
   intro i hi
   unfold HC
   rw [if_pos (A7.2 (Aq hi)), A0c hnd hi, Int.toNat_natCast]
  rw [Bool.eq_iff_iff, Am, Am]
  constructor
  ·intro h i hi
   have := h i hi
   rw [Ka] at this
   rw [J7, hat i hi]; exact this
  ·intro h i hi
   have := h i hi
   rw [J7, hat i hi] at this
   rw [Ka]; exact this
 ·rw [Bool.not_eq_true] at h1
  rw [h1, Bool.false_and, Bool.false_and]
end Go.AM

namespace Go.AM
open Go Go.Proofs
theorem A4z {t : A3} {x : List Int} (hx : Co t x) {w : Int} (hw : w ∈ x) {a : Nat} (h : (M8 t x w).getLsbD a = true) : a < t.nodes.length := by
 rw [M8, AA, Bool.and_eq_true] at h
 have h1 := h.1
 simp only [A6b, Bool.or_eq_true, Bool.and_eq_true, decide_eq_true_eq, A7] at h1
 have : (a : Int) ∈ x := by
  rcases h1 with h1 | h1
  ·rw [h1.1]; exact hw
  ·exact h1.1.1.1
 obtain ⟨m, e, hm⟩ := Aj (hx _ this)
 omega
theorem YD {t : A3} (ht : A8 t) {x f : List Int} (hF : CY t x f) {w : Int} (hw : w ∈ x) {a : Nat} (h : (BN t x f w).getLsbD a = true) : a < t.nodes.length := by
 obtain ⟨j, _, h2, h3⟩ := (DX _ _ _ _ _ _).1 h
 rcases L3 ht hF hw j (fun k hk => h2 k (by omega)) with e | e
 ·have := h2 j (Nat.le_refl _)
  rw [e] at this; cases this
 ·exact A4z hF.node e h3
theorem A2J {t : A3} {x : List Int} (hx : Co t x) {r : Int} (hr : r ∈ x) {b : Nat} (h : HX t x r b = true) : b < t.nodes.length := by
 simp only [HX, Bool.or_eq_true, Bool.and_eq_true, decide_eq_true_eq, A7] at h
 have : (b : Int) ∈ x := by
  rcases h with h1 | h1
  ·rw [h1.1]; exact hr
  ·exact h1.1.1.1
 obtain ⟨m, e, hm⟩ := Aj (hx _ this)
 omega
theorem A3V {n a : Nat} (ha : a < n) (p : Nat → Nat → Bool) (q : Nat → Bool) (hq : ∀ b, q b = true → b < n) : ((Bc n p).map eW).set a [vW ((BA fun b => decide (b < n) && p a b) ||| BA q)] = (Bc n fun i b => p i b || (decide (i = a) && q b)).map eW := by
 rw [← A56 ha p q hq, HS ha, List.map_set]
/-- Who is ordered by what the first so many saw. -/
def ZY (t : A3) (x f : List Int) (L : List Int) (a b : Nat) : Bool := L.any fun r => Kw t x f r && BR (BN t x f (HC x f r)) (a : Int) && HX t x r b
theorem A8L {t : A3} {x f L : List Int} (h : ∀ y, y ∈ L ↔ y ∈ x) (a b : Nat) : ZY t x f L a b = swB t x f a b := by
 unfold ZY swB
 rw [Bool.eq_iff_iff, List.any_eq_true, List.any_eq_true]
 exact ⟨fun ⟨y, h1, h2⟩ => ⟨y, (h y).1 h1, h2⟩, fun ⟨y, h1, h2⟩ => ⟨y, (h y).2 h1, h2⟩⟩
theorem A5u {t : A3} {x f L : List Int} {k : Nat} (hk : k < L.length) (a b : Nat) : ZY t x f (L.take (k + 1)) a b = (ZY t x f (L.take k) a b || (Kw t x f (L.getD k 0) && BR (BN t x f (HC x f (L.getD k 0))) (a : Int) && HX t x (L.getD k 0) b)) := by
 unfold ZY
 rw [List.take_succ_eq_append_getElem hk, List.any_append, List.getD_eq_getElem?_getD, List.getElem?_eq_getElem hk]
 simp
/-- What is laid of what the first so many have from. -/
def UM (t : A3) (x f : List Int) (k : Nat) : List Int := (List.range t.nodes.length).map fun (n : Nat) => HC (x.take k) f (n : Int)
theorem A5v (t : A3) (x f : List Int) : UM t x f 0 = List.replicate t.nodes.length (-1) := by
 apply List.ext_getElem
 ·simp [UM]
 ·intro i h1 h2
  simp [UM, HC, Bd]
theorem A9c (t : A3) (x f : List Int) : UM t x f x.length = onL t x f := by unfold UM onL; rw [List.take_length]
theorem A0d {t : A3} {x f : List Int} {k : Nat} : (UM t x f k).length = t.nodes.length := by simp [UM]
theorem A5r {l : List Int} {n : Int} (h : Bd l n = true) (m : List Int) : Eh (l ++ m) n = Eh l n := by
 have h' : Bd (l ++ m) n = true := A7.2 (List.mem_append_left _ (A7.1 h))
 obtain ⟨i, e1, i1, i2, i3⟩ := DF h
 obtain ⟨j, e2, j1, j2, j3⟩ := DF h'
 rw [e1, e2]
 have g : ∀ k, k < l.length → (l ++ m).getD k 0 = l.getD k 0 := fun k hk => by rw [List.getD_eq_getElem?_getD, List.getD_eq_getElem?_getD, List.getElem?_append_left hk]
 rcases Nat.lt_trichotomy i j with c | c | c
 ·exact absurd (by rw [g i i1]; exact i2) (j3 i c)
 ·rw [c]
 ·exact absurd (by rw [← g j (by omega)]; exact j2) (i3 j c)
theorem A8T {t : A3} {x f : List Int} {k m : Nat} (hk : k < x.length) (hm : x.getD k 0 = (m : Int)) (hmn : m < t.nodes.length) (hris : ∀ i, i ≤ k → Cs x i = true) : ((UM t x f k).map eI).set m [.i .i64 (f.getD k 0)] = (UM t x f (k + 1)).map eI := by
 have hlt : ∀ i, i < k → x.getD i 0 < x.getD k 0 := by
  have : ∀ j, j ≤ k → ∀ i, i < j → x.getD i 0 < x.getD j 0 := by
   intro j
   induction j with
   | zero => intro _ i h; omega
   | succ j ih =>
    intro hj i hi
    have := hris (j + 1) hj
    simp only [Cs, Bool.or_eq_true, decide_eq_true_eq, Nat.add_sub_cancel] at this
    have h2 : x.getD j 0 < x.getD (j + 1) 0 := this.resolve_left (by omega)
    rcases Nat.lt_or_ge i j with c | c
    ·have := ih (by omega) i c; omega
    ·rw [show i = j by omega]; exact h2
  exact this k (Nat.le_refl _)
 have hnot : Bd (x.take k) (m : Int) = false := by
  rw [← Bool.not_eq_true, A7]
  intro h
  obtain ⟨i, hi, e⟩ := List.getElem_of_mem h
  rw [List.length_take] at hi
  have := hlt i (by omega)
  rw [List.getElem_take] at e
  rw [List.getD_eq_getElem?_getD, List.getElem?_eq_getElem (by omega), Option.getD_some, e, hm] at this
  omega
 have htk : x.take (k + 1) = x.take k ++ [(m : Int)] := by
  rw [List.take_succ_eq_append_getElem hk]
  rw [List.getD_eq_getElem?_getD, List.getElem?_eq_getElem hk, Option.getD_some] at hm
  rw [hm]
 have e0 : ((UM t x f k).map eI).set m [.i .i64 (f.getD k 0)] = ((UM t x f k).set m (f.getD k 0)).map eI := by rw [List.map_set]
 rw [e0]
 congr 1
 apply List.ext_getElem
 ·simp [UM]
 ·intro i h1 h2
  have hi : i < t.nodes.length := by simpa [UM] using h2
  rw [List.getElem_set]
  by_cases c : m = i
  ·subst c
   rw [if_pos rfl]
   simp only [UM, List.getElem_map, List.getElem_range]
   unfold HC
   have h3 : Bd (x.take (k + 1)) (m : Int) = true := by rw [htk, A7]; simp
   rw [if_pos h3]
   obtain ⟨j, e, j1, j2, j3⟩ := DF h3
   rw [e, Int.toNat_natCast]
   have : j = k := by
    rw [List.length_take] at j1
    rcases Nat.lt_trichotomy j k with c | c | c
    ·exfalso
     rw [htk, List.getD_eq_getElem?_getD, List.getElem?_append_left (by rw [List.length_take]; omega), ← List.getD_eq_getElem?_getD] at j2
     have : Bd (x.take k) (m : Int) = true := by rw [A7, ← j2]; exact Aq (by rw [List.length_take]; omega)
     rw [hnot] at this; cases this
    ·exact c
    ·omega
   rw [this]
  ·rw [if_neg c]
   simp only [UM, List.getElem_map, List.getElem_range]
   unfold HC
   have c' : ¬ (i : Int) = (m : Int) := by omega
   have e : Bd (x.take (k + 1)) (i : Int) = Bd (x.take k) (i : Int) := by
    rw [htk, Bool.eq_iff_iff, A7, A7, List.mem_append]
    simp [c']
   rw [e]
   by_cases c2 : Bd (x.take k) (i : Int) = true
   ·rw [if_pos c2, if_pos c2, htk, A5r c2]
   ·rw [if_neg c2, if_neg c2]
def hbF (t : A3) (x f : List Int) : Rows := if El t x f = true then Ns t x f else []
end Go.AM

namespace Go.AM
open Go Go.Proofs
/-- A way of one step or more. -/
inductive Ll (p : Nat → Nat → Bool) (N : Nat) (a : Nat) : Nat → Prop where
 | one {b : Nat} (hb : b < N) (h : p a b = true) : Ll p N a b
 | more {b c : Nat} (h1 : Ll p N a b) (hc : c < N) (h : p b c = true) : Ll p N a c
theorem Ll.lt {p : Nat → Nat → Bool} {N a b : Nat} (h : Ll p N a b) : b < N := by cases h <;> assumption
theorem Ll.trans {p : Nat → Nat → Bool} {N a b c : Nat} (h : Ll p N a b) (k : Ll p N b c) : Ll p N a c := by
 induction k with
 | one hb h2 => exact .more h hb h2
 | more _ hc h2 ih => exact .more ih hc h2
open Classical in
theorem LO {n : Nat} (hn : n ≤ 64) (p : Nat → Nat → Bool) {a b : Nat} (ha : a < n) : ((GL (Bc n p)).getD a 0#64).getLsbD b = true ↔ Ll p n a b := by
 have hl : (Bc n p).length ≤ 64 := by rw [CC]; exact hn
 have e : (GL (Bc n p)).getD a 0#64 = K0 (Bc n p) ((Bc n p).getD a 0#64) := by
  rw [GL, Jw hn, if_pos rfl, List.getD_eq_getElem?_getD]
  simp [CC, ha]
 rw [e]
 have hc := ZJ hl ((Bc n p).getD a 0#64)
 have row : ∀ i j, i < n → (((Bc n p).getD i 0#64).getLsbD j = true ↔ j < n ∧ p i j = true) := fun i j hi => by
  rw [HS hi, AA]
  simp only [Bool.and_eq_true, decide_eq_true_eq]
  exact ⟨fun h => h.1, fun h => ⟨h, by omega⟩⟩
 constructor
 ·intro h
  have := hc.least (BA fun j => decide (Ll p n a j)) (fun j hj => by
   obtain ⟨h1, h2⟩ := (row a j ha).1 hj
   rw [AA]
   simp only [Bool.and_eq_true, decide_eq_true_eq]
   exact ⟨.one h1 h2, by omega⟩) (fun y hy hs j hj => by
   rw [CC] at hy
   obtain ⟨h1, h2⟩ := (row y j hy).1 hj
   rw [AA] at hs ⊢
   simp only [Bool.and_eq_true, decide_eq_true_eq] at hs ⊢
   exact ⟨.more hs.1 h1 h2, by omega⟩) b h
  rw [AA] at this
  simp only [Bool.and_eq_true, decide_eq_true_eq] at this
  exact this.1
 ·intro h
  induction h with
  | one hb h => exact hc.sub _ ((row a _ ha).2 ⟨hb, h⟩)
  | more h1 hc' h2 ih => exact hc.closed _ (by rw [CC]; exact h1.lt) ih _ ((row _ _ h1.lt).2 ⟨hc', h2⟩)
theorem Eg {n : Nat} (hn : n ≤ 64) (p : Nat → Nat → Bool) : (GL (Bc n p)).length = n := by
 rw [GL, Jw hn, if_pos rfl]; simp [CC]
theorem A5T {n : Nat} (hn : n ≤ 64) (p : Nat → Nat → Bool) : DQ (GL (Bc n p)) = true := by
 simp only [DQ, Bool.and_eq_true, decide_eq_true_eq, List.all_eq_true, Eg hn]
 refine ⟨hn, fun r hr => ?_⟩
 obtain ⟨i, hi, rfl⟩ := List.getElem_of_mem hr
 rw [Eg hn] at hi
 apply C1
 intro j hj
 rw [BitVec.getLsbD_and, BitVec.getLsbD_not, Eu, AA]
 have e : (GL (Bc n p))[i] = (GL (Bc n p)).getD i 0#64 := by rw [List.getD_eq_getElem?_getD, List.getElem?_eq_getElem (by rw [Eg hn]; exact hi)]; rfl
 rw [e]
 cases hb : ((GL (Bc n p)).getD i 0#64).getLsbD j with
 | false => simp
 | true =>
  have := ((LO hn p hi).1 hb).lt
  simp [this, hj]
theorem E0 {n : Nat} (hn : n ≤ 64) (p : Nat → Nat → Bool) (x : Int × Int) : x ∈ BH (GL (Bc n p)) ↔ ∃ a b : Nat, a < n ∧ x = ((a : Int), (b : Int)) ∧ Ll p n a b := by
 rw [BH, A5T hn, if_pos rfl, Eg hn, List.mem_flatMap]
 constructor
 ·rintro ⟨a, ha, h⟩
  have ha' := List.mem_range.1 ha
  obtain ⟨j, hj, rfl⟩ := List.mem_map.1 h
  obtain ⟨h1, h2⟩ := Hr (E9.1 hj)
  obtain ⟨b, rfl⟩ := Int.eq_ofNat_of_zero_le h1
  have h3 := E9.1 hj
  rw [B0] at h3
  exact ⟨a, b, ha', rfl, (LO hn p ha').1 h3⟩
 ·rintro ⟨a, b, ha, rfl, h⟩
  refine ⟨a, List.mem_range.2 ha, List.mem_map.2 ⟨b, E9.2 ?_, rfl⟩⟩
  rw [B0]
  exact (LO hn p ha).2 h
theorem Jc.rmwLoc {t : A3} : ∀ {n u e : Nat}, Jc t n u e → ∀ m, u < m → m < e → (t.at m).rmw = true → (t.at (t.at m).up.toNat).loc = (t.at m).loc := by
 intro n
 induction n with
 | zero => intro u e h; exact absurd h (by simp [Jc])
 | succ n ih =>
  intro u e h m h1 h2 hr
  obtain ⟨⟨_, ht, _⟩, h⟩ := h
  rcases h with ⟨_, _, rfl⟩ | ⟨c, _, _, al, hb⟩ | ⟨c, _, _, vals, k, loc, mode, _, _, hk0, hke, hloc, hs, _⟩
  ·omega
  ·by_cases e1 : m = u + 1
   ·subst e1
    obtain ⟨p, q⟩ := JI c
    rw [p, Int.toNat_natCast]
    simp only [D3, hr, Bool.or_eq_true, Bool.and_eq_true, decide_eq_true_eq, if_true, Bool.not_true] at al
    rcases al with h | h
    ·have := h.1.1.2; cases this
    ·exact h.2.1.2
   ·exact ih hb m (by omega) h2 hr
  ·obtain ⟨v, hv, a, b⟩ := Ep (k := k) (m := m) vals (by omega) (by omega)
   obtain ⟨s1, s2, s3⟩ := hs v hv
   by_cases e1 : m = k v
   ·subst e1
    rw [E7, hr] at s2
    simp at s2
   ·exact ih s3 m (by omega) b hr
theorem A8.rmwLoc {t : A3} (h : A8 t) {m : Nat} (h2 : m < t.nodes.length) (hr : (t.at m).rmw = true) : t.locs.length ≤ m ∧ (t.at (t.at m).up.toNat).loc = (t.at m).loc := by
 have h1 : t.locs.length ≤ m := by
  rcases Nat.lt_or_ge m t.locs.length with h1 | h1
  ·have := h.first.2 m h1
   simp only [HK, Bool.and_eq_true] at this
   have h3 := this.1.1.2
   rw [hr] at h3; cases h3
  ·exact h1
 refine ⟨h1, ?_⟩
 obtain ⟨s, h0, he, hs⟩ := h.thr
 obtain ⟨v, hv, a, b⟩ := Ep (k := s) (m := m) t.regs.length (by omega) (by omega)
 obtain ⟨hb, n, hn⟩ := hs v hv
 by_cases e1 : m = s v
 ·subst e1
  simp only [Ec, Bool.and_eq_true, decide_eq_true_eq] at hb
  have := hb.2
  rw [hr] at this; cases this
 ·exact hn.rmwLoc m (by omega) b hr
theorem A9S {t : A3} (hu : K5 t) {a : Nat} : ∀ (n : Nat) (b : Nat), b < n → b < t.nodes.length → AE t a b = true → a < b := by
 intro n
 induction n with
 | zero => intro b h; omega
 | succ n ih =>
  intro b hbn hb h
  unfold AE at h
  have hub := hu b hb
  rw [Hy hu a (by omega)] at h
  by_cases c1 : (t.at b).up < 0
  ·rw [if_pos c1] at h; cases h
  ·rw [if_neg c1] at h
   by_cases c2 : (t.at b).up = a
   ·omega
   ·rw [if_neg c2] at h
    have := ih (t.at b).up.toNat (by omega) (by omega) h
    omega
theorem EV {t : A3} (ht : A8 t) {a b : Nat} (h : AD t a b = true) : a < b := by
 simp only [AD, Bool.and_eq_true, Int.toNat_natCast] at h
 obtain ⟨⟨h1, h2⟩, h3⟩ := h
 simp only [BY, Bool.and_eq_true, decide_eq_true_eq] at h1 h2
 by_cases c : (t.at a).thread < 0
 ·rw [if_pos c, decide_eq_true_eq] at h3
  have k1 := (ht.thr_iff (m := a) (by omega)).1 c
  have k2 : ¬ b < t.locs.length := fun k => by have := (ht.thr_iff (m := b) (by omega)).2 k; omega
  omega
 ·rw [if_neg c] at h3
  exact A9S ht.up (b + 1) b (by omega) (by omega) h3
theorem A35 {t : A3} (ht : A8 t) {v : Nat} (hv : v < t.nodes.length) (hu : 0 ≤ (t.at v).up) : AD t (t.at v).up v = true := by
 have hlt := ht.up v hv
 obtain ⟨u, hu'⟩ := Int.eq_ofNat_of_zero_le hu
 have hul : u < t.nodes.length := by omega
 have hl : t.locs.length ≤ v := by
  rcases Nat.lt_or_ge v t.locs.length with h1 | h1
  ·have := (ht.init v h1).up; omega
  ·exact h1
 have hg := ht.good v hl hv
 have hp := hg.par hu
 rw [hu', Int.toNat_natCast] at hp
 have hth := hg.thr
 rw [hu', AD, Ck hul, Ck hv, Int.toNat_natCast, Int.toNat_natCast, if_neg (by omega)]
 simp only [Bool.true_and]
 unfold AE
 rw [Hy ht.up u (by omega), if_neg (by omega), if_pos hu']
end Go.AM

namespace Go.AM
open Go Go.Proofs
theorem S7 {s : Ad} (h : s.has.length = s.jf.length) (n : Int) : UK s n = HC s.has s.jf n := by
 unfold UK HC
 have h1 := CK s.has n
 cases c : Bd s.has n with
 | false =>
  rw [c] at h1
  have := of_decide_eq_true h1
  simp [this]
 | true =>
  obtain ⟨k, e, hk, _, _⟩ := DF c
  rw [e, if_neg (by omega)]; simp
/-- Where a node stands among its location's classes, as the program asks it. -/
def Zf (t : A3) (s : Ad) (n : Int) : Int := Bt s (t.at n.toNat).loc (if (t.at n.toNat).kind = 2 then UK s n else n)
def DO (t : A3) (s : Ad) (a b : Int) : Bool := DG (t.at a.toNat) (t.at b.toNat) (Zf t s a) (Zf t s b)
/-- As the program asks it. -/
def PU (t : A3) (s : Ad) : Bool := BX t s && (BH (Ns t s.has s.jf)).all fun x => DO t s x.1 x.2
theorem Hw {t : A3} {s : Ad} (h : BX t s = true) : El t s.has s.jf = true := by
 simp only [BX, Bool.and_eq_true, decide_eq_true_eq] at h
 obtain ⟨⟨⟨⟨⟨h1, h2⟩, h3⟩, h4⟩, h5⟩, h6⟩ := h
 simp only [BO, Bool.and_eq_true] at h1
 rw [El, decide_eq_true h2.symm]
 simp only [Bool.true_and, Bool.and_eq_true, Am]
 constructor
 ·intro i hi
  have := Am.1 h1.1 i hi
  simp only [BL, Bool.and_eq_true] at this
  rw [Ca, this.1.1, this.1.2]; rfl
 ·intro i hi
  have := Am.1 h4 i hi
  rw [EW] at this
  rw [Ka]
  split
  ·rename_i c
   rw [if_pos c] at this
   simp only [Bool.and_eq_true] at this ⊢
   exact ⟨this.1.1, this.1.2⟩
  ·rename_i c
   rw [if_neg c] at this
   exact this
theorem Aeh {t : A3} {x f : List Int} (hF : CY t x f) {a b : Nat} (h : Lm t x f a b = true) : (a : Int) ∈ x ∧ (b : Int) ∈ x ∨ (∃ r, r ∈ x ∧ Kw t x f r = true ∧ BR (BN t x f (HC x f r)) (a : Int) = true ∧ HX t x r b = true) := by
 simp only [Lm, Bool.or_eq_true, Bool.and_eq_true, A7] at h
 rcases h with h | h
 ·exact .inl h.1
 ·rw [swB, List.any_eq_true] at h
  obtain ⟨r, hr, h⟩ := h
  simp only [Bool.and_eq_true] at h
  exact .inr ⟨r, hr, h.1.1, h.1.2, h.2⟩
theorem XR {t : A3} {x : List Int} {r : Int} (hr : r ∈ x) {b : Nat} (h : HX t x r b = true) : (b : Int) ∈ x ∧ ((b : Int) = r ∨ (t.at b).kind = 4 ∧ AD t r b = true) := by
 simp only [HX, Bool.or_eq_true, Bool.and_eq_true, decide_eq_true_eq, A7] at h
 rcases h with h | h
 ·exact ⟨by rw [h.1]; exact hr, .inl h.1⟩
 ·exact ⟨h.1.1.1, .inr ⟨h.1.1.2, h.2⟩⟩
/-- Who brings a head: a write of the way, or a fence ahead of it. -/
theorem NJ {t : A3} (ht : A8 t) {x f : List Int} (hF : CY t x f) {w : Int} (hw : w ∈ x) {a : Nat} (h : BR (BN t x f w) (a : Int) = true) :
  ∃ j, (∀ i, i ≤ j → Dm t x f i w ∈ x) ∧ (a : Int) ∈ x ∧ ((a : Int) = Dm t x f j w ∨ (t.at a).kind = 4 ∧ AD t a (Dm t x f j w) = true) := by
 rw [B0] at h
 obtain ⟨j, _, h2, h3⟩ := (DX _ _ _ _ _ _).1 h
 have hin : ∀ i, i ≤ j → Dm t x f i w ∈ x := fun i hi => by
  rcases L3 ht hF hw i (fun k hk => h2 k (by omega)) with e | e
  ·have := h2 i hi
   rw [e] at this; cases this
  ·exact e
 rw [M8, AA, Bool.and_eq_true] at h3
 have h4 := h3.1
 simp only [A6b, Bool.or_eq_true, Bool.and_eq_true, decide_eq_true_eq, A7] at h4
 refine ⟨j, hin, ?_⟩
 rcases h4 with h4 | h4
 ·exact ⟨by rw [h4.1]; exact hin j (Nat.le_refl _), .inl h4.1⟩
 ·exact ⟨h4.1.1.1, .inr ⟨h4.1.1.2, h4.2⟩⟩
theorem Uo {t : A3} (ht : A8 t) {x f : List Int} (hF : CY t x f) {a b : Nat} (h : Ll (Lm t x f) t.nodes.length a b) : (a : Int) ∈ x ∧ (b : Int) ∈ x := by
 have edge : ∀ {a b : Nat}, Lm t x f a b = true → (a : Int) ∈ x ∧ (b : Int) ∈ x := by
  intro a b h
  rcases Aeh hF h with h | ⟨r, hr, hs, hh, he⟩
  ·exact h
  ·have hk : (t.at r.toNat).kind = 2 := by simp only [Kw, Bool.and_eq_true, decide_eq_true_eq] at hs; exact hs.1
   obtain ⟨o1, _, _⟩ := hF.read r hr hk
   obtain ⟨_, _, h1, _⟩ := NJ ht hF o1 hh
   exact ⟨h1, (XR hr he).1⟩
 induction h with
 | one hb h => exact edge h
 | more h1 hc h2 ih => exact ⟨ih.1, (edge h2).2⟩
theorem A9y {t : A3} {s : Ad} {q v : Nat} (h : DO t s q v = true) (hq : (t.at q).kind = 2) (hv : (t.at v).kind = 3) {loc : Int} (h1 : (t.at q).loc = loc) (h2 : (t.at v).loc = loc) : Bt s loc (UK s q) < Bt s loc v := by
 simp only [DO, DG, Zf, Int.toNat_natCast, hq, hv, h1, h2] at h
 simpa using h
/-- A write of the way stands no later than its first one, where pairs are right. -/
theorem A31 {t : A3} (ht : A8 t) {s : Ad} (hlen : s.has.length = s.jf.length) (hF : CY t s.has s.jf) (good : ∀ a b : Nat, a ≠ b → Ll (Lm t s.has s.jf) t.nodes.length a b → DO t s a b = true) {w : Int} (hw : w ∈ s.has) (hk : (t.at w.toNat).kind = 3) :
  ∀ j, (∀ i, i ≤ j → Dm t s.has s.jf i w ∈ s.has) → (t.at (Dm t s.has s.jf j w).toNat).kind = 3 ∧ (t.at (Dm t s.has s.jf j w).toNat).loc = (t.at w.toNat).loc ∧ Bt s (t.at w.toNat).loc (Dm t s.has s.jf j w) ≤ Bt s (t.at w.toNat).loc w := by
 intro j
 induction j with
 | zero => intro _; exact ⟨hk, rfl, Int.le_refl _⟩
 | succ j ih =>
  intro hin
  obtain ⟨k1, k2, k3⟩ := ih fun i hi => hin i (by omega)
  have hv := hin j (by omega)
  have hv' := hin (j + 1) (Nat.le_refl _)
  rw [Dm] at hv'
  obtain ⟨v, hv1, hvn⟩ := Aj (hF.node _ hv)
  rw [Dm]
  rw [hv1] at hv hv' k1 k2 k3 ⊢
  rw [Int.toNat_natCast] at k1 k2
  by_cases c : (t.at v).rmw = true ∧ Bd s.has (t.at v).up = true
  ·have hah : Xz t s.has s.jf v = HC s.has s.jf (t.at v).up := by rw [Xz, Int.toNat_natCast, if_pos c]
   obtain ⟨hl, hloc⟩ := ht.rmwLoc hvn c.1
   obtain ⟨hup0, hupk⟩ := (ht.good v hl hvn).rmw c.1
   have hupx := A7.1 c.2
   obtain ⟨o1, o2, o3⟩ := hF.read _ hupx hupk
   rw [hah]
   refine ⟨o2, by rw [o3, hloc, k2], ?_⟩
   obtain ⟨u, hu1⟩ := Int.eq_ofNat_of_zero_le hup0
   have hlt := ht.up v hvn
   have hb := A35 ht hvn hup0
   rw [hu1] at hb hupx hloc hupk
   rw [Int.toNat_natCast] at hloc hupk
   have hp : Ll (Lm t s.has s.jf) t.nodes.length u v := .one hvn (by rw [Lm, A7.2 hupx, A7.2 hv, hb]; rfl)
   have hok := good u v (by omega) hp
   have hok := A9y hok hupk k1 (hloc.trans k2) k2
   rw [hu1]
   rw [S7 hlen] at hok
   omega
  ·have hah : Xz t s.has s.jf v = -1 := by rw [Xz, Int.toNat_natCast, if_neg c]
   rw [hah] at hv'
   obtain ⟨m, e, _⟩ := Aj (hF.node _ hv')
   omega
/-- Nothing comes ahead of itself, where pairs are right. -/
theorem A7O {t : A3} (ht : A8 t) {s : Ad} (hlen : s.has.length = s.jf.length) (hF : CY t s.has s.jf) (good : ∀ a b : Nat, a ≠ b → Ll (Lm t s.has s.jf) t.nodes.length a b → DO t s a b = true) (w : Nat) : ¬ Ll (Lm t s.has s.jf) t.nodes.length w w := by
 intro hww
 have key : ∀ b, Ll (Lm t s.has s.jf) t.nodes.length w b → w < b ∨ ∃ (h e : Nat) (r : Int), r ∈ s.has ∧ Kw t s.has s.jf r = true ∧ BR (BN t s.has s.jf (HC s.has s.jf r)) (h : Int) = true ∧ HX t s.has r e = true ∧ (h = w ∨ Ll (Lm t s.has s.jf) t.nodes.length w h) ∧ (e = b ∨ Ll (Lm t s.has s.jf) t.nodes.length e b) := by
  intro b hb
  have split : ∀ {a b : Nat}, Lm t s.has s.jf a b = true → AD t a b = true ∨ ∃ r, r ∈ s.has ∧ Kw t s.has s.jf r = true ∧ BR (BN t s.has s.jf (HC s.has s.jf r)) (a : Int) = true ∧ HX t s.has r b = true := by
   intro a b h
   simp only [Lm, Bool.or_eq_true, Bool.and_eq_true, A7] at h
   rcases h with h | h
   ·exact .inl h.2
   ·rw [swB, List.any_eq_true] at h
    obtain ⟨r, hr, h⟩ := h
    simp only [Bool.and_eq_true] at h
    exact .inr ⟨r, hr, h.1.1, h.1.2, h.2⟩
  induction hb with
  | one hb h =>
   rename_i b
   rcases split h with h | ⟨r, h1, h2, h3, h4⟩
   ·exact .inl (EV ht h)
   ·exact .inr ⟨w, b, r, h1, h2, h3, h4, .inl rfl, .inl rfl⟩
  | more hp hc h ih =>
   rename_i b c
   rcases ih with hlt | ⟨h', e, r, h1, h2, h3, h4, h5, h6⟩
   ·rcases split h with h | ⟨r, h1, h2, h3, h4⟩
    ·have := EV ht h
     exact .inl (by omega)
    ·exact .inr ⟨b, c, r, h1, h2, h3, h4, .inr hp, .inl rfl⟩
   ·refine .inr ⟨h', e, r, h1, h2, h3, h4, h5, .inr ?_⟩
    rcases h6 with rfl | h6
    ·exact .one hc h
    ·exact .more h6 hc h
 rcases key w hww with h | ⟨h, e, r, h1, h2, h3, h4, h5, h6⟩
 ·omega
 ·have heh : e = h ∨ Ll (Lm t s.has s.jf) t.nodes.length e h := by
   rcases h6 with rfl | h6
   ·rcases h5 with rfl | h5
    ·exact .inl rfl
    ·exact .inr h5
   ·rcases h5 with rfl | h5
    ·exact .inr h6
    ·exact .inr (h6.trans h5)
  have hk : (t.at r.toNat).kind = 2 := by simp only [Kw, Bool.and_eq_true, decide_eq_true_eq] at h2; exact h2.1
  obtain ⟨o1, o2, o3⟩ := hF.read r h1 hk
  obtain ⟨j, hin, hhx, hhead⟩ := NJ ht hF o1 h3
  obtain ⟨hex, hend⟩ := XR h1 h4
  obtain ⟨w1, w2, w3⟩ := A31 ht hlen hF good o1 o2 j hin
  obtain ⟨v, hv1, hvn⟩ := Aj (hF.node _ (hin j (Nat.le_refl _)))
  have hvx := hin j (Nat.le_refl _)
  obtain ⟨q, hq1, hqn⟩ := Aj (hF.node _ h1)
  rw [hv1] at hvx hhead w1 w2 w3
  rw [hq1] at h1 hk hend o1 o2 o3 w2 w3
  rw [Int.toNat_natCast] at hk w1 w2 o3
  have hne : q ≠ v := by intro e; rw [e] at hk; omega
  -- from the read to the write of the way
  have hev : e = v ∨ Ll (Lm t s.has s.jf) t.nodes.length e v := by
   have hhv : h = v ∨ Ll (Lm t s.has s.jf) t.nodes.length h v := by
    rcases hhead with hh | hh
    ·exact .inl (by omega)
    ·exact .inr (.one hvn (by rw [Lm, A7.2 hhx, A7.2 hvx, hh.2]; rfl))
   rcases heh with rfl | h7
   ·exact hhv
   ·rcases hhv with rfl | h8
    ·exact .inr h7
    ·exact .inr (h7.trans h8)
  have hqv : Ll (Lm t s.has s.jf) t.nodes.length q v := by
   rcases hend with he | he
   ·have : e = q := by omega
    subst this
    rcases hev with rfl | h8
    ·exact absurd rfl hne
    ·exact h8
   ·obtain ⟨e', he1, hen⟩ := Aj (hF.node _ hex)
    have : e' = e := by omega
    subst this
    have hqe : Ll (Lm t s.has s.jf) t.nodes.length q e' := .one hen (by rw [Lm, A7.2 h1, A7.2 hex, he.2]; rfl)
    rcases hev with rfl | h8
    ·exact hqe
    ·exact hqe.trans h8
  have hok := good q v hne hqv
  rw [o3] at w2 w3
  have hok := A9y hok hk w1 rfl w2
  rw [S7 hlen] at hok
  omega
end Go.AM

namespace Go.AM
open Go Go.Proofs
def Ds (t : A3) (k : Nat) : List Int := ((List.range k).filter fun i => decide ((t.at i).up < 0)).map fun (i : Nat) => (i : Int)
def Bq (t : A3) : Ad := ⟨Ds t t.nodes.length, List.replicate (Ds t t.nodes.length).length (-1), (List.range t.locs.length).map fun (i : Nat) => [[(i : Int)]]⟩
theorem A1w {t : A3} {k : Nat} (h : decide ((t.at k).up < 0) = true) : Ds t (k + 1) = Ds t k ++ [(k : Int)] := by
 unfold Ds
 rw [List.range_succ, List.filter_append, List.map_append]
 simp only [List.filter_cons, List.filter_nil, h, if_true, List.map_cons, List.map_nil]
theorem A0q {t : A3} {k : Nat} (h : decide ((t.at k).up < 0) = false) : Ds t (k + 1) = Ds t k := by
 unfold Ds
 rw [List.range_succ, List.filter_append, List.map_append]
 simp [h]
theorem MN {t : A3} (k : Nat) : (Ds t k).length ≤ k := by
 unfold Ds
 rw [List.length_map]
 exact Nat.le_trans (List.length_filter_le _ _) (by simp)
def Bz (l : List Int) (n : Int) : Nat := (l.takeWhile fun x => decide (x < n)).length
def Bi (l : List Int) (k : Nat) (x : Int) : List Int := l.take k ++ x :: l.drop k
theorem DC (l : List Int) (n : Int) : Bz l n ≤ l.length := (List.takeWhile_sublist _).length_le
theorem Tv {l : List Int} {n : Int} : ∀ {k : Nat}, k < Bz l n → l.getD k 0 < n := by
 induction l with
 | nil => intro k h; simp [Bz] at h
 | cons x l ih =>
  intro k h
  unfold Bz at h
  rw [List.takeWhile_cons] at h
  by_cases c : x < n
  ·simp only [c, decide_true, if_true, List.length_cons] at h
   cases k with
   | zero => simpa using c
   | succ k =>
    have := ih (k := k) (by unfold Bz; omega)
    simpa using this
  ·simp [c] at h
theorem A8G {l : List Int} {n : Int} (h : Bz l n < l.length) : ¬ l.getD (Bz l n) 0 < n := by
 induction l with
 | nil => simp at h
 | cons x l ih =>
  unfold Bz at h ⊢
  rw [List.takeWhile_cons] at h ⊢
  by_cases c : x < n
  ·simp only [c, decide_true, if_true, List.length_cons] at h ⊢
   have := ih (by unfold Bz; omega)
   unfold Bz at this
   simpa using this
  ·simp [c]
theorem CR {l : List Int} {k : Nat} (h : k ≤ l.length) (x : Int) : (Bi l k x).length = l.length + 1 := by
 simp [Bi]; omega
def Cr (t : A3) (s : Ad) (n kind : Int) : Bool := BX t s && BY t n && decide ((t.at n.toNat).kind = kind) && !Bd s.has n && Bd s.has (t.at n.toNat).up
def CA (s : Ad) (n w : Int) : Ad := ⟨Bi s.has (Bz s.has n) n, Bi s.jf (Bz s.has n) w, s.mo⟩
/-- So big after so many steps; no location without a class. -/
structure Big (t : A3) (s : Ad) (k : Nat) : Prop where
 has : s.has.length ≤ 64 + k
 jf : s.jf.length ≤ 64 + k
 mo : s.mo.length = t.locs.length
 mi : ∀ l ∈ s.mo, l ≠ [] ∧ l.length ≤ 1 + k
 mc : ∀ l ∈ s.mo, ∀ c ∈ l, c.length ≤ 1 + k
theorem Big.sz {t : A3} (ht : A8 t) {s : Ad} {k : Nat} (h : Big t s k) (hk : k ≤ 100) : N7 s :=
 ⟨by have := h.has; omega, by have := h.jf; omega, by have := h.mo; have := ht.l4; omega, fun l hl => by have := (h.mi l hl).2; omega, fun l hl c hc => by have := h.mc l hl c hc; omega⟩
theorem Big.mono {t : A3} {s : Ad} {k j : Nat} (h : Big t s k) (hk : k ≤ j) : Big t s j :=
 ⟨by have := h.has; omega, by have := h.jf; omega, h.mo, fun l hl => ⟨(h.mi l hl).1, by have := (h.mi l hl).2; omega⟩, fun l hl c hc => by have := h.mc l hl c hc; omega⟩
theorem A3M {t : A3} (ht : A8 t) : Big t (Bq t) 0 := by
 have h := MN (t := t) t.nodes.length
 have h64 := ht.n64
 refine ⟨by show (Ds t t.nodes.length).length ≤ 64; omega, by show (List.replicate _ _).length ≤ 64; rw [List.length_replicate]; omega, by simp [Bq], ?_, ?_⟩
 ·intro l hl
  simp only [Bq, List.mem_map] at hl
  obtain ⟨i, _, rfl⟩ := hl
  simp
 ·intro l hl c hc
  simp only [Bq, List.mem_map] at hl
  obtain ⟨i, _, rfl⟩ := hl
  simp at hc
  subst hc
  simp
theorem A6n {t : A3} {s : Ad} {k : Nat} (h : Big t s k) (hj : s.jf.length = s.has.length) (n w : Int) : Big t (CA s n w) (k + 1) := by
 have h1 := DC s.has n
 refine ⟨?_, ?_, h.mo, fun l hl => ⟨(h.mi l hl).1, by have := (h.mi l hl).2; omega⟩, fun l hl c hc => by have := h.mc l hl c hc; omega⟩
 ·show (Bi s.has (Bz s.has n) n).length ≤ _
  rw [CR h1]; have := h.has; omega
 ·show (Bi s.jf (Bz s.has n) w).length ≤ _
  rw [CR (by omega)]; have := h.jf; omega
end Go.AM
