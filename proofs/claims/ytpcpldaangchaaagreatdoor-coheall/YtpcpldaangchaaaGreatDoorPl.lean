/-
  Own work, part of the proof of CoheAll: plain models of what functions compute.
-/
import Derived.Test.YtpcpldaangchaaaGreatDoorAmE
set_option maxRecDepth 4000
set_option linter.unusedVariables false
set_option linter.unusedSimpArgs false
set_option linter.unusedSectionVars false
set_option linter.unnecessarySimpa false
namespace Go.AM
open Go Go.Proofs
def Dv (xs : List Int) : BitVec 64 := xs.foldl (fun s i => s ||| Cy i) 0#64
/-- The set of the numbers from lo on and below hi. -/
def D2 (lo hi : Int) : BitVec 64 := Bz fun i => decide (lo ≤ (i : Int) ∧ (i : Int) < hi)
def Az (s : BitVec 64) : List Int := (BX s).map fun (i : Nat) => (i : Int)
/-- The first of a list that is so; -1: none. -/
def GN {α : Type} (p : α → Bool) (xs : List α) : Int := match xs.findIdx? p with
 | some i => i
 | none => -1
theorem DJ {α : Type} {p : α → Bool} {xs : List α} {k : Nat} (hk : k < xs.length) (h1 : p xs[k] = true) (h2 : ∀ (j : Nat) (hj : j < k), p xs[j] = false) : GN p xs = k := by
 unfold GN
 rw [List.findIdx?_eq_some_iff_getElem.2 ⟨hk, h1, fun j hj => by simp [h2 j hj]⟩]
theorem Df {α : Type} {p : α → Bool} {xs : List α} (h : ∀ x ∈ xs, p x = false) : GN p xs = -1 := by
 unfold GN
 rw [List.findIdx?_eq_none_iff.2 h]
theorem KF {α : Type} (p : α → Bool) (xs : List α) : decide (0 ≤ GN p xs) = xs.any p := by
 unfold GN
 cases h : xs.findIdx? p with
 | none => rw [List.findIdx?_eq_none_iff] at h; simp; exact h
 | some i =>
  obtain ⟨hi, h1, _⟩ := List.findIdx?_eq_some_iff_getElem.1 h
  simp
  exact ⟨_, List.getElem_mem hi, h1⟩
abbrev BY := List (BitVec 64)
def Dn (r : BY) : Bool := decide (r.length ≤ 64) && r.all fun x => decide (x &&& ~~~(D2 0 r.length) = 0#64)
/-- Those that some one of a set is before. -/
def E9 (a : BY) (s : BitVec 64) : BitVec 64 := (BX (s &&& D2 0 a.length)).foldl (fun x i => x ||| a.getD i 0#64) 0#64
def K1 (a : BY) : Nat → BitVec 64 → BitVec 64
 | 0, s => s
 | n + 1, s => if s ||| E9 a s = s then s else K1 a n (s ||| E9 a s)
theorem Kk {s x : BitVec 64} (h : s ||| x ≠ s) : s.toNat < (s ||| x).toNat := by
 have h1 : s.toNat ≤ (s ||| x).toNat := by rw [BitVec.toNat_or]; exact Nat.left_le_or
 rcases Nat.lt_or_ge s.toNat (s ||| x).toNat with h2 | h2
 ·exact h2
 ·exact absurd (BitVec.eq_of_toNat_eq (by omega)) h
theorem Zg (a : BY) : ∀ (n : Nat) (s : BitVec 64), 18446744073709551616 - s.toNat ≤ n → K1 a (n + 1) s = K1 a n s := by
 intro n
 induction n with
 | zero => intro s h; have := s.isLt; omega
 | succ n ih =>
  intro s h
  rw [K1]
  by_cases e : s ||| E9 a s = s
  ·rw [if_pos e]; rw [K1, if_pos e]
  ·rw [if_neg e]
   have := Kk e
   rw [ih _ (by omega), K1, if_neg e]
/-- What comes of a set, step by step. -/
def EX (a : BY) (s : BitVec 64) : BitVec 64 := K1 a 18446744073709551616 s
theorem Zn (a : BY) (s : BitVec 64) : EX a s = if s ||| E9 a s = s then s else EX a (s ||| E9 a s) := by
 have h0 : EX a s = K1 a (18446744073709551615 + 1) s := rfl
 rw [h0, K1]
 by_cases e : s ||| E9 a s = s
 ·rw [if_pos e, if_pos e]
 ·rw [if_neg e, if_neg e]
  have := Kk e
  exact (Zg a 18446744073709551615 _ (by omega)).symm
def Et (a : BY) : BY := if Dn a then (List.range a.length).map (fun i => EX a (a.getD i 0#64)) else []
def Xe (a : BY) (s : BitVec 64) : BY := if Dn a then (List.range a.length).map (fun (i : Nat) => if BR s (i : Int) then a.getD i 0#64 &&& s else 0#64) else []
theorem A8q {a : BY} {i : Nat} (h : i < a.length) : a.getD i 0#64 = a[i] := by
 simp only [List.getD_eq_getElem?_getD, List.getElem?_eq_getElem h, Option.getD_some]
theorem KE {a : BY} (h : Dn a = true) : a.length ≤ 64 := by simp only [Dn, Bool.and_eq_true, decide_eq_true_eq] at h; exact h.1
def CM (a : BY) : List (Int × Int) := if Dn a then (List.range a.length).flatMap (fun i => (Az (a.getD i 0#64)).map fun j => ((i : Int), j)) else []
theorem Dj (s : BitVec 64) : (Az s).length ≤ 64 := by
 simp only [Az, List.length_map]
 unfold BX
 exact Nat.le_trans (List.length_filter_le _ _) (by simp)
theorem Sk (a : BY) : ∀ k, ((List.range k).flatMap (fun i => (Az (a.getD i 0#64)).map fun j => ((i : Int), j))).length ≤ 64 * k := by
 intro k
 induction k with
 | zero => simp
 | succ k ih =>
  rw [List.range_succ, List.flatMap_append, List.length_append]
  have := Dj (a.getD k 0#64)
  simp only [List.flatMap_cons, List.flatMap_nil, List.append_nil, List.length_map]
  omega
def Yj (s t : BitVec 64) : Prop := ∀ j, s.getLsbD j = true → t.getLsbD j = true
def M4 (a : BY) (t : BitVec 64) : Prop := ∀ y, y < a.length → t.getLsbD y = true → Yj (a.getD y 0#64) t
structure PS (a : BY) (s t : BitVec 64) : Prop where
 sub : Yj s t
 closed : M4 a t
 least : ∀ u, Yj s u → M4 a u → Yj t u
theorem Yj.anti {s t : BitVec 64} (h : Yj s t) (k : Yj t s) : s = t := by
 apply BV
 intro j _
 cases hs : s.getLsbD j with
 | true => exact (h j hs).symm
 | false =>
  cases ht : t.getLsbD j with
  | false => rfl
  | true => rw [k j ht] at hs; cases hs
theorem PS.uniq {a : BY} {s t u : BitVec 64} (h : PS a s t) (k : PS a s u) : t = u := Yj.anti (h.least u k.sub k.closed) (k.least t h.sub h.closed)
theorem UH {α : Type} (f : α → BitVec 64) (j : Nat) : ∀ (l : List α) (x : BitVec 64), (l.foldl (fun x i => x ||| f i) x).getLsbD j = (x.getLsbD j || l.any fun i => (f i).getLsbD j)
 | [], x => by simp
 | i :: l, x => by rw [List.foldl_cons, UH f j l, BitVec.getLsbD_or, List.any_cons, Bool.or_assoc]
theorem Sp {a : BY} (hl : a.length ≤ 64) (s : BitVec 64) (j : Nat) : (E9 a s).getLsbD j = true ↔ ∃ i, i < a.length ∧ s.getLsbD i = true ∧ (a.getD i 0#64).getLsbD j = true := by
 unfold E9
 rw [UH]
 simp only [BitVec.getLsbD_zero, Bool.false_or, List.any_eq_true, KA, BitVec.getLsbD_and, Bool.and_eq_true, D2, AH, decide_eq_true_eq]
 constructor
 ·rintro ⟨i, ⟨h1, h2, h3⟩, h4⟩
  exact ⟨i, by omega, h1, h4⟩
 ·rintro ⟨i, h1, h2, h3⟩
  exact ⟨i, ⟨h2, by omega, by omega⟩, h3⟩
theorem A3Z {a : BY} (hl : a.length ≤ 64) : ∀ (n : Nat) (s : BitVec 64), 18446744073709551616 - s.toNat ≤ n → PS a s (K1 a n s) := by
 intro n
 induction n with
 | zero => intro s h; have := s.isLt; omega
 | succ n ih =>
  intro s h
  rw [K1]
  by_cases e : s ||| E9 a s = s
  ·rw [if_pos e]
   refine ⟨fun j h => h, fun y hy hs j hj => ?_, fun u hu _ => hu⟩
   have : (E9 a s).getLsbD j = true := (Sp hl s j).2 ⟨y, hy, hs, hj⟩
   rw [← e, BitVec.getLsbD_or, this, Bool.or_true]
  ·rw [if_neg e]
   have hg := Kk e
   obtain ⟨h1, h2, h3⟩ := ih (s ||| E9 a s) (by omega)
   refine ⟨fun j hj => h1 j (by rw [BitVec.getLsbD_or, hj, Bool.true_or]), h2, fun u hu hc => h3 u (fun j hj => ?_) hc⟩
   rw [BitVec.getLsbD_or, Bool.or_eq_true] at hj
   rcases hj with hj | hj
   ·exact hu j hj
   ·obtain ⟨i, hi, hs, hij⟩ := (Sp hl s j).1 hj
    exact hc i hi (hu i hs) j hij
theorem Rf {a : BY} (hl : a.length ≤ 64) (s : BitVec 64) : PS a s (EX a s) := A3Z hl _ s (by omega)
theorem A6a (s t : BitVec 64) : (s ||| t = t) ↔ Yj s t := by
 constructor
 ·intro h j hj
  rw [← h, BitVec.getLsbD_or, hj, Bool.true_or]
 ·intro h
  apply BV
  intro j _
  rw [BitVec.getLsbD_or]
  cases hs : s.getLsbD j with
  | true => rw [h j hs]; rfl
  | false => simp
def orF (a b : BY) : BY := if Dn a && Dn b && decide (a.length = b.length) then (List.range a.length).map (fun i => a.getD i 0#64 ||| b.getD i 0#64) else []
/-- What has been reckoned of a list of so many, up to k. -/
def CA {α : Type} (n k : Nat) (f : Nat → α) (z : α) : List α := (List.range n).map fun j => if j < k then f j else z
theorem PC {α : Type} {n k : Nat} {f : Nat → α} {z : α} : (CA n k f z).length = n := by simp [CA]
theorem HS {α : Type} {n k : Nat} {f : Nat → α} {z : α} (h : k < n) : (CA n k f z)[k]? = some z := by
 unfold CA
 rw [List.getElem?_map, List.getElem?_range h]
 simp
theorem Mo {α β : Type} {n k : Nat} {f : Nat → α} {z : α} (g : α → β) : ((CA n k f z).map g).set k (g (f k)) = (CA n (k + 1) f z).map g := by
 apply List.ext_getElem
 ·simp [CA]
 ·intro j h1 h2
  simp only [CA, List.getElem_set, List.getElem_map, List.getElem_range]
  by_cases e : k = j
  ·subst e; simp
  ·have : (j < k + 1) ↔ (j < k) := by omega
   simp [e, this]
theorem Eh {α : Type} {n : Nat} {f : Nat → α} {z : α} : CA n 0 f z = List.replicate n z := by
 apply List.ext_getElem
 ·simp [CA]
 ·intro j h1 h2; simp [CA]
theorem Gz {α : Type} {n : Nat} {f : Nat → α} {z : α} : CA n n f z = (List.range n).map f := by
 apply List.map_congr_left
 intro j hj
 rw [if_pos (List.mem_range.1 hj)]
end Go.AM

namespace Go.AM
open Go Go.Proofs
def Ay.zero : Ay := ⟨0, 0, 0, 0, 0, 0, false, false, []⟩
/-- The node of a number. -/
def A5.at (t : A5) (i : Nat) : Ay := t.nodes.getD i Ay.zero
/-- What a node stands beneath has a smaller number. -/
def Kc (t : A5) : Prop := ∀ i, i < t.nodes.length → (t.at i).up < i
/-- Is a met, going up? -/
def KX (t : A5) (a : Int) : Nat → Int → Bool
 | 0, _ => false
 | n + 1, x => if x < 0 then false else if x = a then true else KX t a n (t.at x.toNat).up
theorem Si {t : A5} (h : Kc t) (a : Int) : ∀ (n : Nat) (x : Int), x < n → x < t.nodes.length → KX t a (n + 1) x = KX t a n x := by
 intro n
 induction n with
 | zero =>
  intro x hx _
  show (if x < 0 then false else if x = a then true else KX t a 0 (t.at x.toNat).up) = false
  rw [if_pos (by omega)]
 | succ n ih =>
  intro x hx hl
  rw [KX]
  by_cases h0 : x < 0
  ·rw [if_pos h0, KX, if_pos h0]
  ·rw [if_neg h0]
   conv => rhs; rw [KX, if_neg h0]
   by_cases h1 : x = a
   ·rw [if_pos h1, if_pos h1]
   ·rw [if_neg h1, if_neg h1]
    have := h x.toNat (by omega)
    exact ih _ (by omega) (by omega)
/-- Is b beneath a? -/
def B7 (t : A5) (a : Int) (b : Nat) : Bool := KX t a t.nodes.length (t.at b).up
theorem AeU {t : A5} {i : Nat} (h : i < t.nodes.length) : t.at i = t.nodes[i] := by
 simp only [A5.at, List.getD_eq_getElem?_getD, List.getElem?_eq_getElem h, Option.getD_some]
theorem A4 {t : A5} {i : Nat} (h : i < t.nodes.length) : t.nodes[i]? = some (t.at i) := by rw [AeU h, List.getElem?_eq_getElem h]
def C3 (t : A5) (n : Int) : Bool := decide (0 ≤ n) && decide (n < t.nodes.length)
theorem Aa {t : A5} {n : Int} (h : C3 t n = true) : ∃ m : Nat, n = (m : Int) ∧ m < t.nodes.length := by
 simp only [C3, Bool.and_eq_true, decide_eq_true_eq] at h
 obtain ⟨m, rfl⟩ := Int.eq_ofNat_of_zero_le h.1
 exact ⟨m, rfl, by omega⟩
theorem Da {t : A5} {m : Nat} (h : m < t.nodes.length) : C3 t (m : Int) = true := by
 simp only [C3, Bool.and_eq_true, decide_eq_true_eq]
 omega
/-- Does a come ahead of b? -/
def Aw (t : A5) (a b : Int) : Bool := C3 t a && C3 t b && (if (t.at a.toNat).thread < 0 then decide (0 ≤ (t.at b.toNat).thread) else B7 t a b.toNat)
def Bw (t : A5) (a b : Int) : Bool := C3 t a && C3 t b && !decide (a = b) && decide (0 ≤ (t.at a.toNat).thread) && decide ((t.at a.toNat).thread = (t.at b.toNat).thread) && !B7 t a b.toNat && !B7 t b a.toNat
def CE (n : Ay) : Bool := decide (0 ≤ n.thread) && decide (n.kind = 3) && decide (n.mode = 0) && !n.rmw
def J3 (n : Ay) : Bool := (decide (n.kind = 2) || decide (n.kind = 4)) && (decide (n.mode = 1) || decide (n.mode = 3) || decide (n.mode = 4))
def E8 (n : Ay) : Bool := (decide (n.kind = 3) && decide (0 ≤ n.thread) || decide (n.kind = 4)) && (decide (n.mode = 2) || decide (n.mode = 3) || decide (n.mode = 4))
end Go.AM

namespace Go.AM
open Go Go.Proofs
theorem AY {n : Nat} {p : Nat → Bool} (h : ∀ j, j < n → p j = true) : (List.range n).all p = true := by
 rw [List.all_eq_true]
 intro j hj
 exact h j (List.mem_range.1 hj)
theorem AZ {n k : Nat} {p : Nat → Bool} (hk : k < n) (h : p k = false) : (List.range n).all p = false := by
 rw [List.all_eq_false]
 exact ⟨k, List.mem_range.2 hk, by simp [h]⟩
theorem Av {n : Nat} {p : Nat → Bool} : (List.range n).all p = true ↔ ∀ j, j < n → p j = true := by
 rw [List.all_eq_true]
 exact ⟨fun h j hj => h j (List.mem_range.2 hj), fun h j hj => h j (List.mem_range.1 hj)⟩
theorem X2 {n k : Nat} {p : Nat → Bool} (hk : k < n) (h : p k = true) : (List.range n).any p = true := by
 rw [List.any_eq_true]
 exact ⟨k, List.mem_range.2 hk, h⟩
theorem Aq {xs : List Int} {k : Nat} (h : k < xs.length) : xs[k]? = some (xs.getD k 0) := by
 rw [List.getD_eq_getElem?_getD, List.getElem?_eq_getElem h]; rfl
theorem Gt {xs : List (List Int)} {k : Nat} (h : k < xs.length) : xs[k]? = some (xs.getD k []) := by
 rw [List.getD_eq_getElem?_getD, List.getElem?_eq_getElem h]; rfl
theorem Cc {xs : List (List (List Int))} {k : Nat} (h : k < xs.length) : xs[k]? = some (xs.getD k []) := by
 rw [List.getD_eq_getElem?_getD, List.getElem?_eq_getElem h]; rfl
theorem Ap {α : Type} {xs : List α} {k : Nat} {d : α} (h : k < xs.length) : xs.getD k d ∈ xs := by
 rw [List.getD_eq_getElem?_getD, List.getElem?_eq_getElem h]
 exact List.getElem_mem h
def Be (l : List Int) (n : Int) : Bool := l.any fun y => decide (n = y)
theorem Ai {l : List Int} {n : Int} : Be l n = true ↔ n ∈ l := by
 unfold Be
 rw [List.any_eq_true]
 constructor
 ·rintro ⟨x, hx, e⟩; rw [of_decide_eq_true e]; exact hx
 ·intro h; exact ⟨n, h, by simp⟩
def LM (l : List Int) (n : Int) : Int := GN (fun y => decide (n = y)) l
theorem DV (l : List Int) (n : Int) : decide (0 ≤ LM l n) = Be l n := KF _ _
theorem BT (l : List Int) (n : Int) : decide (LM l n < 0) = !Be l n := by
 rw [← DV]
 by_cases h : 0 ≤ LM l n
 ·have : ¬ LM l n < 0 := by omega
  simp [h, this]
 ·have : LM l n < 0 := by omega
  simp [h, this]
theorem M9 {α : Type} {p : α → Bool} {l : List α} (h : l.any p = true) : ∃ k : Nat, GN p l = k ∧ ∃ hk : k < l.length, p l[k] = true ∧ ∀ (j : Nat) (hj : j < k), p (l[j]'(by omega)) = false := by
 unfold GN
 cases e : l.findIdx? p with
 | none =>
  rw [List.findIdx?_eq_none_iff] at e
  rw [List.any_eq_true] at h
  obtain ⟨x, hx, hp⟩ := h
  rw [e x hx] at hp; cases hp
 | some i =>
  obtain ⟨hi, h1, h2⟩ := List.findIdx?_eq_some_iff_getElem.1 e
  exact ⟨i, rfl, hi, h1, fun j hj => by simpa using h2 j hj⟩
theorem Y1 {α : Type} {p : α → Bool} {l : List α} (h : l.any p = false) : GN p l = -1 := by
 apply Df
 intro x hx
 rw [List.any_eq_false] at h
 simpa using h x hx
theorem Ey {l : List Int} {n : Int} (h : Be l n = true) : ∃ k : Nat, LM l n = k ∧ k < l.length ∧ l.getD k 0 = n ∧ ∀ j, j < k → l.getD j 0 ≠ n := by
 obtain ⟨k, e, hk, h1, h2⟩ := M9 h
 refine ⟨k, e, hk, ?_, fun j hj => ?_⟩
 ·rw [List.getD_eq_getElem?_getD, List.getElem?_eq_getElem hk]
  exact (of_decide_eq_true h1).symm
 ·have := h2 j hj
  rw [List.getD_eq_getElem?_getD, List.getElem?_eq_getElem (by omega)]
  intro e; rw [Option.getD_some] at e; rw [e] at this; simp at this
theorem Wg {l : List Int} {n : Int} (h : Be l n = false) : LM l n = -1 := Y1 h
/-- Is it more than the one ahead of it? -/
def CL (l : List Int) (k : Nat) : Bool := decide (k = 0) || decide (l.getD (k - 1) 0 < l.getD k 0)
def LU (t : A5) : BitVec 64 := Bz fun i => decide (i < t.nodes.length) && decide ((t.at i).up < 0)
def Ca (t : A5) (l : List Int) (k : Nat) : Bool := C3 t (l.getD k 0) && CL l k && (decide ((t.at (l.getD k 0).toNat).up < 0) || Be l (t.at (l.getD k 0).toNat).up)
def C8 (t : A5) (l : List Int) : Bool := (List.range l.length).all (Ca t l) && decide (LU t ||| Dv l = Dv l)
def AJ (t : A5) (x y : Int) : Bool := CE (t.at x.toNat) && CE (t.at y.toNat) && decide ((t.at x.toNat).val = (t.at y.toNat).val) && Bw t x y
def HG (t : A5) (n loc : Int) : Bool := decide ((t.at n.toNat).kind = 3) && decide ((t.at n.toNat).loc = loc)
def BD (t : A5) (l has : List Int) (loc : Int) (i : Nat) : Bool := Be has (l.getD i 0) && CL l i && HG t (l.getD i 0) loc && decide (0 ≤ (t.at (l.getD i 0).toNat).thread) && (List.range i).all fun k => AJ t (l.getD i 0) (l.getD k 0)
def Dp (t : A5) (l has : List Int) (loc : Int) : Bool := !decide (l.length = 0) && (List.range l.length).all (BD t l has loc)
def GU (t : A5) (s : Ac) (i : Nat) : Bool :=
 if (t.at (s.has.getD i 0).toNat).kind = 2 then Be s.has (s.jf.getD i 0) && HG t (s.jf.getD i 0) (t.at (s.has.getD i 0).toNat).loc && decide ((t.at (s.jf.getD i 0).toNat).val = (t.at (s.has.getD i 0).toNat).val) else decide (s.jf.getD i 0 = -1)
def JB (t : A5) (s : Ac) (loc : Nat) : Bool :=
 let m := s.mo.getD loc []
 !decide (m.length = 0) && decide (m.getD 0 [] = [(loc : Int)]) && (List.range m.length).all fun i => decide (i = 0) || Dp t (m.getD i []) s.has loc
def Mk (t : A5) (s : Ac) (i : Nat) : Bool :=
 !decide ((t.at (s.has.getD i 0).toNat).kind = 3) || decide (((s.mo.getD (t.at (s.has.getD i 0).toNat).loc.toNat []).filter fun c => Be c (s.has.getD i 0)).length = 1)
def BM (t : A5) (s : Ac) : Bool := C8 t s.has && decide (s.jf.length = s.has.length) && decide (s.mo.length = t.locs.length) && (List.range s.has.length).all (GU t s) && (List.range s.mo.length).all (JB t s) && (List.range s.has.length).all (Mk t s)
/-- Sizes that fit. -/
structure Ja (s : Ac) : Prop where
 has : s.has.length ≤ 1000
 jf : s.jf.length ≤ 1000
 mo : s.mo.length ≤ 1000
 mi : ∀ l ∈ s.mo, l.length ≤ 1000
 mc : ∀ l ∈ s.mo, ∀ c ∈ l, c.length ≤ 1000
theorem Ja.mi' {s : Ac} (h : Ja s) (k : Nat) : (s.mo.getD k []).length ≤ 1000 := by
 by_cases hk : k < s.mo.length
 ·exact h.mi _ (Ap hk)
 ·rw [List.getD_eq_getElem?_getD, List.getElem?_eq_none (by omega)]; simp
theorem Ja.mc' {s : Ac} (h : Ja s) (k j : Nat) : ((s.mo.getD k []).getD j []).length ≤ 1000 := by
 by_cases hk : k < s.mo.length
 ·by_cases hj : j < (s.mo.getD k []).length
  ·exact h.mc _ (Ap hk) _ (Ap hj)
  ·rw [List.getD_eq_getElem?_getD, List.getElem?_eq_none (by omega)]; simp
 ·rw [List.getD_eq_getElem?_getD, List.getElem?_eq_none (by rw [List.getD_eq_getElem?_getD, List.getElem?_eq_none (by omega)]; simp)]; simp
def jfF (s : Ac) (n : Int) : Int := if LM s.has n < 0 ∨ (s.jf.length : Int) ≤ LM s.has n then -1 else s.jf.getD (LM s.has n).toNat 0
def GA (s : Ac) (loc w : Int) : Int := if loc < 0 ∨ (s.mo.length : Int) ≤ loc then -1 else GN (fun c => Be c w) (s.mo.getD loc.toNat [])
def E4 (a b : Ay) (pa pb : Int) : Bool :=
 (!(decide (a.kind = 2) || decide (a.kind = 3)) || !(decide (b.kind = 2) || decide (b.kind = 3)) || !decide (a.loc = b.loc)) || (if b.kind = 2 then decide (pa ≤ pb) else decide (pa < pb))
end Go.AM

namespace Go.AM
open Go Go.Proofs
/-- Does the node at come next, right beneath another one, of its thread? -/
def BH (t : A5) (a u : Nat) : Bool := decide (a < t.nodes.length) && decide ((t.at a).up = u) && decide ((t.at a).thread = (t.at u).thread)
def HI (t : A5) (v : Int) : Bool := decide (0 ≤ v) && decide (v < t.vals)
def Kp (t : A5) (v : Int) : Bool := decide (0 ≤ v) && decide (v < t.locs.length)
def A2C (t : A5) (u : Nat) : Bool := (t.at u).fin && decide ((t.at u).regs.length = (t.regs.getD (t.at u).thread.toNat []).length) && (t.at u).regs.all (HI t)
/-- May a node that is no read stand beneath u, all by itself? -/
def Dy (t : A5) (u : Nat) : Bool :=
 let n := t.at (u + 1); let m := t.at u
 (decide (n.kind = 4) && decide (n.loc = 0) && decide (n.val = 0) && !n.rmw && decide (1 ≤ n.mode) && decide (n.mode ≤ 4)) ||
 (decide (n.kind = 3) && Kp t n.loc && HI t n.val &&
  (if n.rmw then decide (0 ≤ n.mode) && decide (n.mode ≤ 4) && decide (m.kind = 2) && decide (m.loc = n.loc) && decide (m.mode = n.mode) else decide (n.mode = 0) || decide (n.mode = 2) || decide (n.mode = 4)))
def Ko (t : A5) (u : Nat) : Bool := decide (u + 1 < t.nodes.length) && decide ((t.at (u + 1)).up = u) && (t.at (u + 1)).rmw
/-- What a read beside others must be. -/
def EN (t : A5) (a v : Nat) (loc mode : Int) : Bool := decide ((t.at a).kind = 2) && decide ((t.at a).val = v) && decide ((t.at a).loc = loc) && decide ((t.at a).mode = mode) && !(t.at a).rmw
def AcJ (t : A5) (u : Nat) : Prop := u < t.nodes.length ∧ 0 ≤ (t.at u).thread ∧ (t.at u).thread < t.regs.length
/-- From u + 1 up to e stands what is beneath u. -/
def JP (t : A5) : Nat → Nat → Nat → Prop
 | 0, _, _ => False
 | n + 1, u, e => AcJ t u ∧ (
  (BH t (u + 1) u = false ∧ A2C t u = true ∧ e = u + 1) ∨
  (BH t (u + 1) u = true ∧ (t.at u).fin = false ∧ (t.at u).regs = [] ∧ Dy t u = true ∧ JP t n (u + 1) e) ∨
  (BH t (u + 1) u = true ∧ (t.at u).fin = false ∧ (t.at u).regs = [] ∧ ∃ (vals : Nat) (k : Nat → Nat) (loc mode : Int), t.vals = vals ∧ 0 < vals ∧ k 0 = u + 1 ∧ k vals = e ∧ Kp t loc = true ∧
   (∀ v, v < vals → BH t (k v) u = true ∧ EN t (k v) v loc mode = true ∧ JP t n (k v) (k (v + 1))) ∧
   ((mode = 0 ∨ mode = 1 ∨ mode = 4) ∨ (0 ≤ mode ∧ mode ≤ 4 ∧ ∃ v, v < vals ∧ Ko t (k v) = true))))
/-- A location's first write. -/
def Je (t : A5) (i : Nat) : Bool := decide ((t.at i).thread = -1) && decide ((t.at i).up = -1) && decide ((t.at i).kind = 3) && decide ((t.at i).loc = i) && decide ((t.at i).mode = 0) && HI t (t.at i).val && !(t.at i).rmw && !(t.at i).fin && decide ((t.at i).regs = [])
def G7 (t : A5) (u i : Nat) : Bool := decide ((t.at u).thread = i) && decide ((t.at u).up = -1) && decide ((t.at u).kind = 1) && decide ((t.at u).loc = 0) && decide ((t.at u).mode = 0) && decide ((t.at u).val = 0) && !(t.at u).rmw
structure Aj (t : A5) : Prop where
 v2 : 2 ≤ t.vals
 v4 : t.vals ≤ 4
 l4 : t.locs.length ≤ 4
 ln : t.locs.Nodup
 n64 : t.nodes.length ≤ 64
 r1 : 1 ≤ t.regs.length
 r4 : t.regs.length ≤ 4
 rl : ∀ l ∈ t.regs, l.length ≤ 4 ∧ l.Nodup
 first : t.locs.length ≤ t.nodes.length ∧ ∀ i, i < t.locs.length → Je t i = true
 thr : ∃ s : Nat → Nat, s 0 = t.locs.length ∧ s t.regs.length = t.nodes.length ∧ ∀ i, i < t.regs.length → G7 t (s i) i = true ∧ ∃ n, JP t n (s i) (s (i + 1))
end Go.AM

namespace Go.AM
open Go Go.Proofs
theorem A8k {v n : Int} (hn : 0 < n) : (v.tmod n < 0 → v.tmod n + n = v % n ∧ -n < v.tmod n) ∧ (¬ v.tmod n < 0 → v.tmod n = v % n) := by
 have h1 : v.tmod n < n := Int.tmod_lt_of_pos v hn
 have h2 : -n < v.tmod n := Int.lt_tmod_of_pos v hn
 have h3 : v.tmod n + n * v.tdiv n = v := Int.tmod_add_mul_tdiv v n
 have h4 : v % n = v.tmod n % n := by
  conv => lhs; rw [← h3]
  exact Int.add_mul_emod_self_left ..
 constructor
 ·intro h
  refine ⟨?_, h2⟩
  rw [h4, ← Int.add_emod_right, Int.emod_eq_of_lt (by omega) (by omega)]
 ·intro h
  rw [h4, Int.emod_eq_of_lt (by omega) (by omega)]
/-- A row of an expression. -/
inductive GE : List VV → Prop
 | mk (op n : Int) (nm : ByteArray) (kids : List (List VV)) : kids.length ≤ 1000 → (∀ k ∈ kids, GE k) → GE [.i .i64 op, .i .i64 n, .s nm, .ls kids]
theorem GE.len {r : List VV} (h : GE r) : r.length = 4 := by cases h; rfl
theorem GE.frz {r : List VV} (h : GE r) {hh : VH} {d : Nat} : AW (frz hh (d + 1)) r = some (r, []) := by cases h; rfl
theorem GE.take {r : List VV} (h : GE r) : r.take 4 = r := by cases h; rfl
theorem GE.cell {r : List VV} (h : GE r) : r.all VV.cell = true := by cases h; rfl
theorem Rl {l : List (List VV)} {k : Nat} (h : k < l.length) : l[k]? = some l[k] := List.getElem?_eq_getElem h
def N4 : List ByteArray := [⟨⟨[97]⟩⟩, ⟨⟨[98]⟩⟩, ⟨⟨[99]⟩⟩, ⟨⟨[100]⟩⟩]
def GM (k : Int) : Bool := decide (k = 1) || decide (k = 2) || decide (k = 4) || decide (k = 5)
/-- What a statement of a kind must have. -/
structure OKS (locs : List ByteArray) (kind mode : Int) (reg loc : ByteArray) (args : Nat) : Prop where
 k : 1 ≤ kind ∧ kind ≤ 7
 rn : GM kind = true → reg ∈ N4
 one : kind = 1 ∨ kind = 3 ∨ kind = 4 ∨ kind = 5 ∨ kind = 7 → 1 ≤ args
 two : kind = 5 → 2 ≤ args
 loc : kind = 2 ∨ kind = 3 ∨ kind = 4 ∨ kind = 5 → loc ∈ locs
 ml : kind = 2 → mode = 0 ∨ mode = 1 ∨ mode = 4
 ms : kind = 3 → mode = 0 ∨ mode = 2 ∨ mode = 4
 ma : kind = 4 ∨ kind = 5 → 0 ≤ mode ∧ mode ≤ 4
 mf : kind = 6 → 1 ≤ mode ∧ mode ≤ 4
 rs : reg.size ≤ 1000
abbrev rS (kind mode : Int) (reg loc : ByteArray) (args th el : List (List VV)) : List VV := [.i .i64 kind, .i .i64 mode, .s reg, .s loc, .ls args, .ls th, .ls el]
inductive GS (locs : List ByteArray) : List VV → Prop
 | mk (kind mode : Int) (reg loc : ByteArray) (args th el : List (List VV)) : args.length ≤ 1000 → (∀ a ∈ args, GE a) → th.length ≤ 1000 → el.length ≤ 1000 →
  (∀ s ∈ th, GS locs s) → (∀ s ∈ el, GS locs s) → OKS locs kind mode reg loc args.length → GS locs (rS kind mode reg loc args th el)
/-- All registers that are set have these names. -/
inductive RI (names : List ByteArray) : List VV → Prop
 | mk (kind mode : Int) (reg loc : ByteArray) (args th el : List (List VV)) : (GM kind = true → reg ∈ names) → (∀ s ∈ th, RI names s) → (∀ s ∈ el, RI names s) → RI names (rS kind mode reg loc args th el)
theorem RI.mono {n m : List ByteArray} (h : ∀ x ∈ n, x ∈ m) {r : List VV} (k : RI n r) : RI m r := by
 induction k with
 | mk kind mode reg loc args th el h1 h2 h3 ih1 ih2 => exact .mk _ _ _ _ _ _ _ (fun e => h _ (h1 e)) ih1 ih2
theorem GS.len {l : List ByteArray} {r : List VV} (h : GS l r) : r.length = 7 := by cases h; rfl
theorem GS.frz {l : List ByteArray} {r : List VV} (h : GS l r) {hh : VH} {d : Nat} : AW (frz hh (d + 1)) r = some (r, []) := by cases h; rfl
theorem GS.take {l : List ByteArray} {r : List VV} (h : GS l r) : r.take 7 = r := by cases h; rfl
theorem GS.cell {l : List ByteArray} {r : List VV} (h : GS l r) : r.all VV.cell = true := by cases h; rfl
theorem A4u {c : List ByteArray} {l : List (List VV)} (h : ∀ k ∈ l, GS c k) : Dk 7 l = true := by
 unfold Dk
 rw [List.all_eq_true]
 intro r hr
 rw [(h r hr).len]; rfl
end Go.AM

namespace Go.AM
open Go Go.Proofs
theorem Dx {t t' : A5} {l : List Ay} (h : t'.nodes = t.nodes ++ l) {i : Nat} (hi : i < t.nodes.length) : t'.at i = t.at i := by
 unfold A5.at
 rw [h, List.getD_eq_getElem?_getD, List.getD_eq_getElem?_getD, List.getElem?_append_left hi]
theorem A5M {t t' : A5} {l : List Ay} (h : t'.nodes = t.nodes ++ l) {i : Nat} (hi : t.nodes.length ≤ i) (h2 : i < t'.nodes.length) : t'.at i ∈ l := by
 have hl : t'.nodes.length = t.nodes.length + l.length := by rw [h, List.length_append]
 unfold A5.at
 rw [h, List.getD_eq_getElem?_getD, List.getElem?_append_right hi, List.getElem?_eq_getElem (by omega)]
 exact List.getElem_mem _
/-- The same but for nodes that come behind. -/
structure WA (t t' : A5) (l : List Ay) : Prop where
 n : t'.nodes = t.nodes ++ l
 v : t'.vals = t.vals
 l : t'.locs = t.locs
 r : t'.regs = t.regs
theorem WA.len {t t' : A5} {l : List Ay} (h : WA t t' l) : t.nodes.length ≤ t'.nodes.length := by rw [h.n, List.length_append]; omega
theorem A03 {t t' : A5} {l : List Ay} (h : WA t t' l) {u a : Nat} (hu : u < t.nodes.length) (hx : ∀ x ∈ l, x.up ≠ (u : Int)) : BH t' a u = BH t a u := by
 unfold BH
 by_cases ha : a < t.nodes.length
 ·have := h.len
  have ha' : a < t'.nodes.length := by omega
  rw [Dx h.n ha, Dx h.n hu, decide_eq_true ha, decide_eq_true ha']
 ·rw [decide_eq_false ha]
  by_cases ha' : a < t'.nodes.length
  ·have := hx _ (A5M h.n (by omega) ha')
   rw [decide_eq_false this]; simp
  ·rw [decide_eq_false ha']; simp
theorem Xv {t t' : A5} {l : List Ay} (h : WA t t' l) {u : Nat} (hu : u < t.nodes.length) (hx : ∀ x ∈ l, x.up ≠ (u : Int)) : Ko t' u = Ko t u := by
 unfold Ko
 by_cases ha : u + 1 < t.nodes.length
 ·have := h.len
  have ha' : u + 1 < t'.nodes.length := by omega
  rw [Dx h.n ha, decide_eq_true ha, decide_eq_true ha']
 ·rw [decide_eq_false ha]
  by_cases ha' : u + 1 < t'.nodes.length
  ·have := hx _ (A5M h.n (by omega) ha')
   rw [decide_eq_false this]; simp
  ·rw [decide_eq_false ha']; simp
theorem JP.lt {t : A5} : ∀ {n u e : Nat}, JP t n u e → u < e := by
 intro n
 induction n with
 | zero => intro u e h; exact h.elim
 | succ n ih =>
  intro u e h
  rcases h.2 with ⟨_, _, rfl⟩ | ⟨_, _, _, _, b⟩ | ⟨_, _, _, vals, k, loc, mode, _, h0, hk0, hke, _, hs, _⟩
  ·omega
  ·have := ih b; omega
  ·have key : ∀ j, j ≤ vals → u + 1 ≤ k j := by
    intro j
    induction j with
    | zero => intro _; omega
    | succ j ihj =>
     intro hj
     have h1 := ihj (by omega)
     have h2 := ih (hs j (by omega)).2.2
     omega
   have := key vals (Nat.le_refl _)
   omega
theorem Ka {t : A5} {a u : Nat} (h : BH t a u = true) : a < t.nodes.length := by
 unfold BH at h
 simp only [Bool.and_eq_true, decide_eq_true_eq] at h
 exact h.1.1
/-- The places of kids rise. -/
theorem A3U {t : A5} {n : Nat} {k : Nat → Nat} {vals : Nat} (hs : ∀ v, v < vals → JP t n (k v) (k (v + 1))) : ∀ i j, i ≤ j → j ≤ vals → k i ≤ k j := by
  intro i j hij hj
  induction j with
  | zero => have : i = 0 := by omega
            subst this; exact Nat.le_refl _
  | succ j ih =>
    by_cases e : i = j + 1
    · subst e; exact Nat.le_refl _
    · have h1 := ih (by omega) (by omega)
      have h2 := (hs j (by omega)).lt
      omega
theorem JP.le {t : A5} : ∀ {n u e : Nat}, JP t n u e → e ≤ t.nodes.length := by
 intro n
 induction n with
 | zero => intro u e h; exact h.elim
 | succ n ih =>
  intro u e h
  rcases h.2 with ⟨_, _, rfl⟩ | ⟨_, _, _, _, b⟩ | ⟨_, _, _, vals, k, loc, mode, _, h0, hk0, hke, _, hs, _⟩
  ·exact h.1.1
  ·exact ih b
  ·have := ih (hs (vals - 1) (by omega)).2.2
   rw [show vals - 1 + 1 = vals by omega, hke] at this
   exact this
theorem JP.more {t t' : A5} {l : List Ay} (h : WA t t' l) : ∀ {n u e : Nat}, JP t n u e → (∀ x ∈ l, x.up < (u : Int) ∨ (e : Int) ≤ x.up) → JP t' n u e := by
 intro n
 induction n with
 | zero => intro u e b; exact b.elim
 | succ n ih =>
  intro u e b hx
  have hlt := b.lt
  have hle := b.le
  have hl := h.len
  obtain ⟨⟨i1, i2, i3⟩, b⟩ := b
  have hu : t'.at u = t.at u := Dx h.n i1
  have hc : ∀ a, BH t' a u = BH t a u := fun a => A03 h i1 fun x hx' e' => by rcases hx x hx' with h1 | h1 <;> omega
  refine ⟨⟨by omega, by rw [hu]; exact i2, by rw [hu, h.r]; exact i3⟩, ?_⟩
  rcases b with ⟨b1, b2, b3⟩ | ⟨b1, b2, b3, b4, b5⟩ | ⟨b1, b2, b3, vals, k, loc, mode, b4, b5, b6, b7, b8, b9, b10⟩
  ·refine .inl ⟨(hc _).trans b1, ?_, b3⟩
   unfold A2C HI at b2 ⊢
   rw [hu, h.r, h.v]; exact b2
  ·refine .inr (.inl ⟨(hc _).trans b1, by rw [hu]; exact b2, by rw [hu]; exact b3, ?_, ih b5 fun x hx' => ?_⟩)
   ·have := Ka b1
    unfold Dy Kp HI at b4 ⊢
    rw [hu, Dx h.n this, h.l, h.v]; exact b4
   ·rcases hx x hx' with h1 | h1
    ·exact .inl (by omega)
    ·exact .inr h1
  ·have hr := A3U fun v hv => (b9 v hv).2.2
   refine .inr (.inr ⟨(hc _).trans b1, by rw [hu]; exact b2, by rw [hu]; exact b3, vals, k, loc, mode, by rw [h.v]; exact b4, b5, b6, b7, by unfold Kp at b8 ⊢; rw [h.l]; exact b8, fun v hv => ?_, ?_⟩)
   ·obtain ⟨c1, c2, c3⟩ := b9 v hv
    have h1 := hr 0 v (by omega) (by omega)
    have h2 := hr (v + 1) vals (by omega) (by omega)
    refine ⟨(hc _).trans c1, ?_, ih c3 fun x hx' => ?_⟩
    ·unfold EN at c2 ⊢
     rw [Dx h.n (Ka c1)]; exact c2
    ·rcases hx x hx' with h3 | h3
     ·exact .inl (by omega)
     ·exact .inr (by omega)
   ·rcases b10 with b10 | ⟨c1, c2, v, c3, c4⟩
    ·exact .inl b10
    ·have h1 := hr 0 v (by omega) (by omega)
     have h2 := hr (v + 1) vals (by omega) (by omega)
     have h3 := (b9 v c3).2.2.lt
     refine .inr ⟨c1, c2, v, c3, ?_⟩
     rw [Xv h (Ka (b9 v c3).1) fun x hx' e' => by rcases hx x hx' with h4 | h4 <;> omega]
     exact c4
theorem JP.fuel {t : A5} : ∀ {n u e : Nat}, JP t n u e → JP t (n + 1) u e := by
 intro n
 induction n with
 | zero => intro u e h; exact h.elim
 | succ n ih =>
  intro u e h
  refine ⟨h.1, ?_⟩
  rcases h.2 with b | ⟨b1, b2, b3, b4, b5⟩ | ⟨b1, b2, b3, vals, k, loc, mode, b4, b5, b6, b7, b8, b9, b10⟩
  ·exact .inl b
  ·exact .inr (.inl ⟨b1, b2, b3, b4, ih b5⟩)
  ·exact .inr (.inr ⟨b1, b2, b3, vals, k, loc, mode, b4, b5, b6, b7, b8, fun v hv => ⟨(b9 v hv).1, (b9 v hv).2.1, ih (b9 v hv).2.2⟩, b10⟩)
theorem JP.fuel' {t : A5} {n m u e : Nat} (h : JP t n u e) (hm : n ≤ m) : JP t m u e := by
  induction m with
  | zero => have : n = 0 := by omega
            subst this; exact h
  | succ m ih =>
    by_cases e : n = m + 1
    · subst e; exact h
    · exact (ih (by omega)).fuel
end Go.AM

namespace Go.AM
open Go Go.Proofs
abbrev TT (vals : Int) (locs : List ByteArray) (rg : List (List ByteArray)) (ns : List Ay) : A5 := ⟨vals, locs, rg, ns⟩
/-- From a node on all has been built that is beneath it. -/
def X1 (vals : Int) (locs : List ByteArray) (rg : List (List ByteArray)) (ns : List Ay) (n : Ay) (ns' : List Ay) : Prop :=
 ∃ (f : Bool) (g : List Int) (l : List Ay), ns' = ns ++ { n with fin := f, regs := g } :: l ∧ (∀ x ∈ l, (ns.length : Int) ≤ x.up) ∧ ∃ m, JP (TT vals locs rg ns') m ns.length ns'.length
def J9 (nl : Nat) (vals : Int) (m n : Ay) : Bool :=
 (decide (n.kind = 4) && decide (n.loc = 0) && decide (n.val = 0) && !n.rmw && decide (1 ≤ n.mode) && decide (n.mode ≤ 4)) ||
 (decide (n.kind = 3) && (decide (0 ≤ n.loc) && decide (n.loc < nl)) && (decide (0 ≤ n.val) && decide (n.val < vals)) &&
  (if n.rmw then decide (0 ≤ n.mode) && decide (n.mode ≤ 4) && decide (m.kind = 2) && decide (m.loc = n.loc) && decide (m.mode = n.mode) else decide (n.mode = 0) || decide (n.mode = 2) || decide (n.mode = 4)))
theorem A0F (t : A5) (u : Nat) : Dy t u = J9 t.locs.length t.vals (t.at u) (t.at (u + 1)) := rfl
theorem Lr {vals : Int} {locs : List ByteArray} {rg : List (List ByteArray)} {a : List Ay} {x : Ay} {b : List Ay} : (TT vals locs rg (a ++ x :: b)).at a.length = x := by
 simp [A5.at]
theorem A8P {vals : Int} {locs : List ByteArray} {rg : List (List ByteArray)} {a : List Ay} {x y : Ay} {b : List Ay} : (TT vals locs rg (a ++ x :: y :: b)).at (a.length + 1) = y := by
 simp [A5.at]
theorem A5y {vals : Int} {locs : List ByteArray} {rg : List (List ByteArray)} {ns : List Ay} {n : Ay} {th : Nat} (ht : n.thread = th) (hth : th < rg.length) {g : List Int} (hg : g.length = (rg.getD th []).length) (hv : ∀ v ∈ g, 0 ≤ v ∧ v < vals) :
  X1 vals locs rg ns n (ns ++ [{ n with fin := true, regs := g }]) := by
 refine ⟨true, g, [], rfl, by simp, 1, ?_⟩
 have ha : (TT vals locs rg (ns ++ [{ n with fin := true, regs := g }])).at ns.length = { n with fin := true, regs := g } := Lr
 have hl : (TT vals locs rg (ns ++ [{ n with fin := true, regs := g }])).nodes.length = ns.length + 1 := by simp
 refine ⟨⟨by omega, by rw [ha]; show 0 ≤ n.thread; omega, by rw [ha]; show n.thread < (rg.length : Int); omega⟩, .inl ⟨?_, ?_, by simp⟩⟩
 ·unfold BH
  rw [hl]; simp
 ·unfold A2C
  rw [ha]
  simp only [ht, Int.toNat_natCast, hg, decide_true, Bool.true_and, List.all_eq_true]
  intro v h
  obtain ⟨h1, h2⟩ := hv v h
  simp [HI, h1, h2]
theorem S3 {n : Ay} (h1 : n.fin = false) (h2 : n.regs = []) : ({ n with fin := false, regs := [] } : Ay) = n := by
 cases n; simp at h1 h2; subst h1; subst h2; rfl
theorem LQ {vals : Int} {locs : List ByteArray} {rg : List (List ByteArray)} {ns : List Ay} {n x : Ay} {th : Nat} (ht : n.thread = th) (hth : th < rg.length) (hf : n.fin = false) (hr : n.regs = []) (hxu : x.up = ns.length) (hxt : x.thread = th)
  (ha : J9 locs.length vals n x = true) {ns' : List Ay} (h : X1 vals locs rg (ns ++ [n]) x ns') : X1 vals locs rg ns n ns' := by
 obtain ⟨f, g, l, rfl, h1, m, h2⟩ := h
 refine ⟨false, [], { x with fin := f, regs := g } :: l, ?_, ?_, m + 1, ?_⟩
 ·rw [S3 hf hr]; simp
 ·intro y hy
  rcases List.mem_cons.1 hy with rfl | hy
  ·show (ns.length : Int) ≤ x.up; omega
  ·have := h1 y hy
   simp at this; omega
 ·have e : ns ++ [n] ++ { x with fin := f, regs := g } :: l = ns ++ n :: { x with fin := f, regs := g } :: l := by simp
  rw [e] at h2 ⊢
  have a0 : (TT vals locs rg (ns ++ n :: { x with fin := f, regs := g } :: l)).at ns.length = n := Lr
  have a1 : (TT vals locs rg (ns ++ n :: { x with fin := f, regs := g } :: l)).at (ns.length + 1) = { x with fin := f, regs := g } := A8P
  have hl : ns.length + 1 < (TT vals locs rg (ns ++ n :: { x with fin := f, regs := g } :: l)).nodes.length := by simp
  refine ⟨⟨by omega, by rw [a0]; omega, by rw [a0]; show n.thread < (rg.length : Int); omega⟩, .inr (.inl ⟨?_, by rw [a0]; exact hf, by rw [a0]; exact hr, ?_, ?_⟩)⟩
  ·unfold BH
   rw [a0, a1, decide_eq_true hl]
   simp [hxu, hxt, ht]
  ·rw [A0F, a0, a1]; exact ha
  ·simpa using h2
theorem NC {vals : Int} {locs : List ByteArray} {rg : List (List ByteArray)} {ns : List Ay} {x y : Ay} {ns' : List Ay} (hu : y.up = ns.length) (hr : y.rmw = true) (h : X1 vals locs rg (ns ++ [x]) y ns') : Ko (TT vals locs rg ns') ns.length = true := by
 obtain ⟨f, g, l, rfl, _⟩ := h
 have e : (TT vals locs rg (ns ++ [x] ++ { y with fin := f, regs := g } :: l)).at (ns.length + 1) = { y with fin := f, regs := g } := by
  have := Lr (vals := vals) (locs := locs) (rg := rg) (a := ns ++ [x]) (x := { y with fin := f, regs := g }) (b := l)
  simpa using this
 unfold Ko
 rw [e]
 simp [hu, hr]
/-- Reads side by side, so many as yet. -/
def XL (vals : Int) (locs : List ByteArray) (rg : List (List ByteArray)) (ns : List Ay) (n : Ay) (v : Nat) (loc mode : Int) (rm : Nat → Bool) (nsv : List Ay) : Prop :=
 ∃ (l : List Ay) (k : Nat → Nat), nsv = ns ++ n :: l ∧ (∀ x ∈ l, (ns.length : Int) ≤ x.up) ∧ k 0 = ns.length + 1 ∧ k v = nsv.length ∧
  ∀ j, j < v → BH (TT vals locs rg nsv) (k j) ns.length = true ∧ EN (TT vals locs rg nsv) (k j) j loc mode = true ∧ (∃ m, JP (TT vals locs rg nsv) m (k j) (k (j + 1))) ∧ (rm j = true → Ko (TT vals locs rg nsv) (k j) = true)
theorem Ll {vals : Int} {locs : List ByteArray} {rg : List (List ByteArray)} {ns : List Ay} {n : Ay} {loc mode : Int} {rm : Nat → Bool} : XL vals locs rg ns n 0 loc mode rm (ns ++ [n]) :=
 ⟨[], fun _ => ns.length + 1, rfl, by simp, rfl, by simp, fun j hj => by omega⟩
theorem A5e {t t' : A5} {l : List Ay} (h : WA t t' l) {u a : Nat} (hu : u < t.nodes.length) (ha : a < t.nodes.length) : BH t' a u = BH t a u := by
 unfold BH
 have := h.len
 rw [Dx h.n ha, Dx h.n hu, decide_eq_true ha, decide_eq_true (show a < t'.nodes.length by omega)]
theorem AaK {t : A5} {k : Nat → Nat} {v : Nat} (h : ∀ j, j < v → ∃ m, JP t m (k j) (k (j + 1))) : ∀ i j, i ≤ j → j ≤ v → k i ≤ k j := by
  intro i j hij hj
  induction j with
  | zero => have : i = 0 := by omega
            subst this; exact Nat.le_refl _
  | succ j ih =>
    by_cases e : i = j + 1
    · subst e; exact Nat.le_refl _
    · have h1 := ih (by omega) (by omega)
      obtain ⟨m, h2⟩ := h j (by omega)
      have := h2.lt
      omega
theorem Jc {vals : Int} {locs : List ByteArray} {rg : List (List ByteArray)} {ns : List Ay} {n x : Ay} {v : Nat} {loc mode : Int} {rm : Nat → Bool} {nsv ns' : List Ay} (h : XL vals locs rg ns n v loc mode rm nsv)
  (hxu : x.up = ns.length) (hxt : x.thread = n.thread) (hk : x.kind = 2) (hv : x.val = v) (hl : x.loc = loc) (hm : x.mode = mode) (hr : x.rmw = false) (hg : X1 vals locs rg nsv x ns') (hrm : rm v = true → Ko (TT vals locs rg ns') nsv.length = true) :
  XL vals locs rg ns n (v + 1) loc mode rm ns' := by
 obtain ⟨l, k, rfl, h1, h2, h3, h4⟩ := h
 obtain ⟨f, g, l', rfl, g1, m', g2⟩ := hg
 have mo : WA (TT vals locs rg (ns ++ n :: l)) (TT vals locs rg ((ns ++ n :: l) ++ { x with fin := f, regs := g } :: l')) ({ x with fin := f, regs := g } :: l') := ⟨rfl, rfl, rfl, rfl⟩
 have hlen : (TT vals locs rg (ns ++ n :: l)).nodes.length = (ns ++ n :: l).length := rfl
 have ru := AaK (t := TT vals locs rg (ns ++ n :: l)) (k := k) (v := v) fun j hj => (h4 j hj).2.2.1
 have hnl : ns.length < (ns ++ n :: l).length := by simp
 refine ⟨l ++ { x with fin := f, regs := g } :: l', fun j => if j ≤ v then k j else ((ns ++ n :: l) ++ { x with fin := f, regs := g } :: l').length, by simp, ?_, by simp [h2], if_neg (by omega), ?_⟩
 ·intro y hy
  rcases List.mem_append.1 hy with hy | hy
  ·exact h1 y hy
  ·rcases List.mem_cons.1 hy with rfl | hy
   ·show (ns.length : Int) ≤ x.up; omega
   ·have := g1 y hy; omega
 ·intro j hj
  dsimp only
  rw [if_pos (show j ≤ v by omega)]
  by_cases e : j = v
  ·subst e
   rw [h3, if_neg (by omega)]
   have a0 : (TT vals locs rg ((ns ++ n :: l) ++ { x with fin := f, regs := g } :: l')).at (ns ++ n :: l).length = { x with fin := f, regs := g } := Lr
   refine ⟨?_, ?_, ⟨m', g2⟩, hrm⟩
   ·unfold BH
    rw [a0, Dx mo.n (by rw [hlen]; exact hnl)]
    have : (TT vals locs rg (ns ++ n :: l)).at ns.length = n := Lr
    rw [this]
    simp [hxu, hxt]
   ·unfold EN
    rw [a0]
    simp [hk, hv, hl, hm, hr]
  ·rw [if_pos (show j + 1 ≤ v by omega)]
   obtain ⟨c1, c2, ⟨m, c3⟩, c4⟩ := h4 j (by omega)
   have c0 := Ka c1
   have r1 := ru (j + 1) v (by omega) (Nat.le_refl _)
   have r0 := ru 0 j (by omega) (by omega)
   have r2 := c3.lt
   rw [h3] at r1
   rw [h2] at r0
   have hx : ∀ y ∈ ({ x with fin := f, regs := g } :: l' : List Ay), y.up < (k j : Int) ∨ (k (j + 1) : Int) ≤ y.up := by
    intro y hy
    rcases List.mem_cons.1 hy with rfl | hy
    ·left; show x.up < (k j : Int); omega
    ·right; have := g1 y hy; omega
   refine ⟨?_, ?_, ⟨m, c3.more mo hx⟩, fun h => ?_⟩
   ·rw [A5e mo (by rw [hlen]; exact hnl) c0]; exact c1
   ·unfold EN at c2 ⊢
    rw [Dx mo.n c0]; exact c2
   ·rw [Xv mo c0 fun y hy e => by rcases hx y hy with q | q <;> omega]
    exact c4 h
theorem A6s {t : A5} {k : Nat → Nat} : ∀ v, (∀ j, j < v → ∃ m, JP t m (k j) (k (j + 1))) → ∃ M, ∀ j, j < v → JP t M (k j) (k (j + 1)) := by
 intro v
 induction v with
 | zero => intro _; exact ⟨0, fun j hj => by omega⟩
 | succ v ih =>
  intro h
  obtain ⟨M, hM⟩ := ih fun j hj => h j (by omega)
  obtain ⟨m, hm⟩ := h v (by omega)
  refine ⟨max M m, fun j hj => ?_⟩
  by_cases e : j = v
  ·subst e; exact hm.fuel' (Nat.le_max_right _ _)
  ·exact (hM j (by omega)).fuel' (Nat.le_max_left _ _)
theorem MF {vals : Nat} {locs : List ByteArray} {rg : List (List ByteArray)} {ns : List Ay} {n : Ay} {th : Nat} (ht : n.thread = th) (hth : th < rg.length) (hf : n.fin = false) (hr : n.regs = []) {loc mode : Int} {rm : Nat → Bool} {nsv : List Ay} (hv : 0 < vals) (hl : 0 ≤ loc ∧ loc < locs.length)
  (hm : (mode = 0 ∨ mode = 1 ∨ mode = 4) ∨ (0 ≤ mode ∧ mode ≤ 4 ∧ ∃ v, v < vals ∧ rm v = true)) (h : XL vals locs rg ns n vals loc mode rm nsv) : X1 vals locs rg ns n nsv := by
 obtain ⟨l, k, rfl, h1, h2, h3, h4⟩ := h
 refine ⟨false, [], l, by rw [S3 hf hr], h1, ?_⟩
 obtain ⟨M, hM⟩ := A6s vals fun j hj => (h4 j hj).2.2.1
 have a0 : (TT vals locs rg (ns ++ n :: l)).at ns.length = n := Lr
 have c0 := (h4 0 hv).1
 rw [h2] at c0
 refine ⟨M + 1, ⟨by have := Ka c0; omega, by rw [a0]; omega, by rw [a0]; show n.thread < (rg.length : Int); omega⟩, .inr (.inr ⟨c0, by rw [a0]; exact hf, by rw [a0]; exact hr, vals, k, loc, mode, rfl, hv, h2, h3, ?_, fun v hv => ⟨(h4 v hv).1, (h4 v hv).2.1, hM v hv⟩, ?_⟩)⟩
 ·simp [Kp, hl.1, hl.2]
 ·rcases hm with hm | ⟨m1, m2, v, m3, m4⟩
  ·exact .inl hm
  ·exact .inr ⟨m1, m2, v, m3, (h4 v m3).2.2.2 m4⟩
end Go.AM

namespace Go.AM
open Go Go.Proofs
def Thr (vals : Int) (locs : List ByteArray) (rg : List (List ByteArray)) (i : Nat) (ns : List Ay) : Prop :=
 (locs.length ≤ ns.length ∧ ∀ j, j < locs.length → Je (TT vals locs rg ns) j = true) ∧ ∃ s : Nat → Nat, s 0 = locs.length ∧ s i = ns.length ∧
  ∀ j, j < i → G7 (TT vals locs rg ns) (s j) j = true ∧ ∃ m, JP (TT vals locs rg ns) m (s j) (s (j + 1))
theorem A6V {vals : Int} {locs : List ByteArray} {rg : List (List ByteArray)} {i : Nat} {ns ns' : List Ay} {x : Ay} (h : Thr vals locs rg i ns) (hx : x = ⟨i, -1, 1, 0, 0, 0, false, false, []⟩) (hg : X1 vals locs rg ns x ns') : Thr vals locs rg (i + 1) ns' := by
 subst hx
 obtain ⟨⟨h1, h2⟩, s, s0, si, hs⟩ := h
 obtain ⟨f, g, l, rfl, g1, m, g2⟩ := hg
 let x' : Ay := ⟨i, -1, 1, 0, 0, 0, false, f, g⟩
 have mo : WA (TT vals locs rg ns) (TT vals locs rg (ns ++ x' :: l)) (x' :: l) := ⟨rfl, rfl, rfl, rfl⟩
 have hl : (TT vals locs rg ns).nodes.length = ns.length := rfl
 have ru := AaK (t := TT vals locs rg ns) (k := s) (v := i) fun j hj => (hs j hj).2
 refine ⟨⟨by simp; omega, fun j hj => ?_⟩, fun j => if j ≤ i then s j else (ns ++ x' :: l).length, by simp [s0], if_neg (by omega), fun j hj => ?_⟩
 ·have := h2 j hj
  unfold Je HI at this ⊢
  rw [Dx mo.n (by rw [hl]; omega)]
  exact this
 ·dsimp only
  rw [if_pos (show j ≤ i by omega)]
  by_cases e : j = i
  ·subst e
   rw [si, if_neg (by omega)]
   refine ⟨?_, m, g2⟩
   unfold G7
   have : (TT vals locs rg (ns ++ x' :: l)).at ns.length = x' := Lr
   rw [this]; simp [x']
  ·rw [if_pos (show j + 1 ≤ i by omega)]
   obtain ⟨b1, m2, b2⟩ := hs j (by omega)
   have r1 := ru (j + 1) i (by omega) (Nat.le_refl _)
   have r2 := b2.lt
   rw [si] at r1
   refine ⟨?_, m2, b2.more mo fun y hy => ?_⟩
   ·unfold G7 at b1 ⊢
    rw [Dx mo.n (by rw [hl]; omega)]; exact b1
   ·rcases List.mem_cons.1 hy with rfl | hy
    ·left; show (-1 : Int) < _; omega
    ·right; have := g1 y hy; omega
/-- The first writes of locations. -/
def PO (ini : List (ByteArray × Int)) (k : Nat) : List Ay := (List.range k).map fun (i : Nat) => (⟨-1, -1, 3, (i : Int), 0, (ini.getD i default).2, false, false, []⟩ : Ay)
theorem Kb (ini : List (ByteArray × Int)) (k : Nat) : (PO ini k).length = k := by simp [PO]
theorem A3O (ini : List (ByteArray × Int)) (k : Nat) : PO ini (k + 1) = PO ini k ++ [⟨-1, -1, 3, k, 0, (ini.getD k default).2, false, false, []⟩] := by
 unfold PO
 rw [List.range_succ, List.map_append]; rfl
theorem A7o {vals : Int} {rg : List (List ByteArray)} {ini : List (ByteArray × Int)} (hv : ∀ x ∈ ini, 0 ≤ x.2 ∧ x.2 < vals) : Thr vals (ini.map (·.1)) rg 0 (PO ini ini.length) := by
 refine ⟨⟨by simp [Kb], fun j hj => ?_⟩, fun _ => ini.length, by simp, by simp [Kb], fun j hj => by omega⟩
 have hj' : j < ini.length := by simpa using hj
 have e : (TT vals (ini.map (·.1)) rg (PO ini ini.length)).at j = ⟨-1, -1, 3, j, 0, (ini.getD j default).2, false, false, []⟩ := by
  unfold A5.at
  simp only [List.getD_eq_getElem?_getD]
  rw [List.getElem?_eq_getElem (by rw [Kb]; exact hj')]
  simp [PO]
 have hm : ini.getD j default ∈ ini := Ap hj'
 obtain ⟨v1, v2⟩ := hv _ hm
 unfold Je
 rw [e]
 simp [HI, v1, v2]
 simp [List.getD_eq_getElem?_getD] at v1 v2
 omega
theorem A3M {vals : Int} {locs : List ByteArray} {rg : List (List ByteArray)} {ns : List Ay} (h : Thr vals locs rg rg.length ns) (v2 : 2 ≤ vals) (v4 : vals ≤ 4) (l4 : locs.length ≤ 4) (ln : locs.Nodup) (n64 : ns.length ≤ 64) (r1 : 1 ≤ rg.length) (r4 : rg.length ≤ 4) (rl : ∀ l ∈ rg, l.length ≤ 4 ∧ l.Nodup) : Aj (TT vals locs rg ns) where
 v2 := v2
 v4 := v4
 l4 := l4
 ln := ln
 n64 := n64
 r1 := r1
 r4 := r4
 rl := rl
 first := h.1
 thr := h.2
end Go.AM

namespace Go.AM
open Go Go.Proofs
structure XM (t : A5) (m : Nat) : Prop where
 thr : 0 ≤ (t.at m).thread
 up0 : -1 ≤ (t.at m).up
 up : (t.at m).up < m
 loc : (t.at m).kind = 2 ∨ (t.at m).kind = 3 → Kp t (t.at m).loc = true
 rmw : (t.at m).rmw = true → 0 ≤ (t.at m).up ∧ (t.at (t.at m).up.toNat).kind = 2
 par : 0 ≤ (t.at m).up → (t.at (t.at m).up.toNat).thread = (t.at m).thread
theorem Qf {t : A5} {a u : Nat} (h : BH t a u = true) : (t.at a).up = u ∧ (t.at a).thread = (t.at u).thread := by
 simp only [BH, Bool.and_eq_true, decide_eq_true_eq] at h
 exact ⟨h.1.2, h.2⟩
theorem A40 {t : A5} {u : Nat} (h : Dy t u = true) : (t.at (u + 1)).kind = 2 ∨ (t.at (u + 1)).kind = 3 → Kp t (t.at (u + 1)).loc = true := by
 simp only [Dy, Bool.or_eq_true, Bool.and_eq_true, decide_eq_true_eq] at h
 rcases h with h | h
 ·intro k; have := h.1.1.1.1.1; omega
 ·intro _; exact h.1.1.2
theorem A3B {t : A5} {u : Nat} (h : Dy t u = true) (hr : (t.at (u + 1)).rmw = true) : (t.at u).kind = 2 := by
 simp only [Dy, hr, Bool.or_eq_true, Bool.and_eq_true, decide_eq_true_eq, if_true, Bool.not_true] at h
 rcases h with h | h
 ·have := h.1.1.2; cases this
 ·exact h.2.1.1.2
theorem HJ {k : Nat → Nat} {m : Nat} : ∀ n : Nat, k 0 ≤ m → m < k n → ∃ v, v < n ∧ k v ≤ m ∧ m < k (v + 1) := by
 intro n
 induction n with
 | zero => intro h1 h2; omega
 | succ n ih =>
  intro h1 h2
  by_cases c : m < k n
  ·obtain ⟨v, a, b, d⟩ := ih h1 c
   exact ⟨v, by omega, b, d⟩
  ·exact ⟨n, by omega, by omega, h2⟩
theorem JP.good {t : A5} : ∀ {n u e : Nat}, JP t n u e → ∀ m, u < m → m < e → XM t m := by
 intro n
 induction n with
 | zero => intro u e h; exact absurd h (by simp [JP])
 | succ n ih =>
  intro u e h m h1 h2
  obtain ⟨⟨_, ht, _⟩, h⟩ := h
  rcases h with ⟨_, _, rfl⟩ | ⟨c, _, _, al, hb⟩ | ⟨c, _, _, vals, k, loc, mode, _, _, hk0, hke, hloc, hs, _⟩
  ·omega
  ·by_cases e1 : m = u + 1
   ·subst e1
    obtain ⟨p, q⟩ := Qf c
    exact ⟨by omega, by omega, by omega, A40 al, fun hr => ⟨by omega, by rw [p, Int.toNat_natCast]; exact A3B al hr⟩, fun _ => by rw [p, Int.toNat_natCast]; exact q.symm⟩
   ·exact ih hb m (by omega) h2
  ·obtain ⟨v, hv, a, b⟩ := HJ (k := k) (m := m) vals (by omega) (by omega)
   obtain ⟨s1, s2, s3⟩ := hs v hv
   by_cases e1 : m = k v
   ·subst e1
    obtain ⟨p, q⟩ := Qf s1
    simp only [EN, Bool.and_eq_true, decide_eq_true_eq] at s2
    exact ⟨by omega, by omega, by omega, fun _ => by rw [s2.1.1.2]; exact hloc, fun hr => by rw [hr] at s2; simp at s2, fun _ => by rw [p, Int.toNat_natCast]; exact q.symm⟩
   ·exact ih s3 m (by omega) b
theorem Aj.good {t : A5} (h : Aj t) (m : Nat) (h1 : t.locs.length ≤ m) (h2 : m < t.nodes.length) : XM t m := by
 obtain ⟨s, h0, he, hs⟩ := h.thr
 obtain ⟨v, hv, a, b⟩ := HJ (k := s) (m := m) t.regs.length (by omega) (by omega)
 obtain ⟨hb, n, hn⟩ := hs v hv
 by_cases e1 : m = s v
 ·subst e1
  simp only [G7, Bool.and_eq_true, decide_eq_true_eq] at hb
  have k1 := hb.1.1.1.1.2
  have k3 := hb.1.1.1.1.1.2
  have k4 := hb.2
  exact ⟨by omega, by omega, by omega, fun k => by omega, fun hr => by simp_all, fun h0 => by omega⟩
 ·exact hn.good m (by omega) b
structure A82 (t : A5) (i : Nat) : Prop where
 thr : (t.at i).thread = -1
 up : (t.at i).up = -1
 kind : (t.at i).kind = 3
 loc : (t.at i).loc = i
theorem Aj.init {t : A5} (h : Aj t) (i : Nat) (hi : i < t.locs.length) : A82 t i := by
 have := h.first.2 i hi
 simp only [Je, Bool.and_eq_true, decide_eq_true_eq] at this
 obtain ⟨⟨⟨⟨⟨⟨⟨⟨a, b⟩, c⟩, d⟩, _⟩, _⟩, _⟩, _⟩, _⟩ := this
 exact ⟨a, b, c, d⟩
theorem Aj.up {t : A5} (h : Aj t) : Kc t := by
 intro i hi
 by_cases c : i < t.locs.length
 ·rw [(h.init i c).up]; omega
 ·exact (h.good i (by omega) hi).up
theorem Aj.wloc {t : A5} (h : Aj t) {m : Nat} (hm : m < t.nodes.length) (hk : (t.at m).kind = 2 ∨ (t.at m).kind = 3) : 0 ≤ (t.at m).loc ∧ (t.at m).loc < t.locs.length := by
 by_cases c : m < t.locs.length
 ·rw [(h.init m c).loc]; omega
 ·have := (h.good m (by omega) hm).loc hk
  simp only [Kp, Bool.and_eq_true, decide_eq_true_eq] at this
  exact this
theorem Aj.thr_iff {t : A5} (h : Aj t) {m : Nat} (hm : m < t.nodes.length) : (t.at m).thread < 0 ↔ m < t.locs.length := by
 by_cases c : m < t.locs.length
 ·rw [(h.init m c).thr]; omega
 ·have := (h.good m (by omega) hm).thr
  omega
end Go.AM

namespace Go.AM
open Go Go.Proofs
def U4 (t : A5) : Nat → Nat → Int
 | 0, _ => 0
 | n + 1, i => if (t.at i).up < 0 then 0 else U4 t n (t.at i).up.toNat + 1
def TR (t : A5) : Nat → Nat → BitVec 64
 | 0, _ => 0#64
 | n + 1, i => if (t.at i).up < 0 then 0#64 else TR t n (t.at i).up.toNat ||| Cy (t.at i).up
def Ps (t : A5) (i : Nat) : Int := U4 t (i + 1) i
def ovr (t : A5) (i : Nat) : BitVec 64 := TR t (i + 1) i
theorem A48 {t : A5} (h : Kc t) : ∀ (n i : Nat), i < n → i < t.nodes.length → U4 t (n + 1) i = U4 t n i := by
 intro n
 induction n with
 | zero => intro i hi; omega
 | succ n ih =>
  intro i hi hl
  rw [U4]
  conv => rhs; rw [U4]
  by_cases c : (t.at i).up < 0
  ·rw [if_pos c, if_pos c]
  ·rw [if_neg c, if_neg c]
   have := h i hl
   rw [ih _ (by omega) (by omega)]
theorem A41 {t : A5} (h : Kc t) : ∀ (n i : Nat), i < n → i < t.nodes.length → TR t (n + 1) i = TR t n i := by
 intro n
 induction n with
 | zero => intro i hi; omega
 | succ n ih =>
  intro i hi hl
  rw [TR]
  conv => rhs; rw [TR]
  by_cases c : (t.at i).up < 0
  ·rw [if_pos c, if_pos c]
  ·rw [if_neg c, if_neg c]
   have := h i hl
   rw [ih _ (by omega) (by omega)]
theorem A91 {t : A5} (h : Kc t) {i : Nat} (hl : i < t.nodes.length) : ∀ k, U4 t (i + 1 + k) i = Ps t i := by
 intro k
 induction k with
 | zero => rfl
 | succ k ih => rw [← ih]; exact A48 h (i + 1 + k) i (by omega) hl
theorem A9M {t : A5} (h : Kc t) {i : Nat} (hl : i < t.nodes.length) : ∀ k, TR t (i + 1 + k) i = ovr t i := by
 intro k
 induction k with
 | zero => rfl
 | succ k ih => rw [← ih]; exact A41 h (i + 1 + k) i (by omega) hl
theorem A11 {t : A5} (h : Kc t) {i u : Nat} (hl : i < t.nodes.length) (hu : (t.at i).up = u) : Ps t i = Ps t u + 1 := by
 have := h i hl
 rw [Ps, U4, if_neg (by omega), hu, Int.toNat_natCast, ← A91 h (by omega) (i - (u + 1))]
 rw [show u + 1 + (i - (u + 1)) = i by omega]
theorem A7h {t : A5} (h : Kc t) {i u : Nat} (hl : i < t.nodes.length) (hu : (t.at i).up = u) : ovr t i = ovr t u ||| Cy u := by
 have := h i hl
 rw [ovr, TR, if_neg (by omega), hu, Int.toNat_natCast, ← A9M h (by omega) (i - (u + 1))]
 rw [show u + 1 + (i - (u + 1)) = i by omega]
theorem A5p {t : A5} {i : Nat} (hu : (t.at i).up < 0) : Ps t i = 0 := by rw [Ps, U4, if_pos hu]
theorem A7S {t : A5} {i : Nat} (hu : (t.at i).up < 0) : ovr t i = 0#64 := by rw [ovr, TR, if_pos hu]
theorem Kh {t : A5} (h : Kc t) (a : Int) {x : Int} (hx : x < t.nodes.length) : KX t a t.nodes.length x = if x < 0 then false else if x = a then true else KX t a t.nodes.length (t.at x.toNat).up := by
 rw [← Si h a t.nodes.length x hx hx, KX]
theorem A9Y (s r : BitVec 64) (x : Int) : BR (s ||| r) x = (BR s x || BR r x) := by
 unfold BR
 rw [BitVec.getLsbD_or]
 cases decide (0 ≤ x) <;> simp
theorem A7p (i : Nat) (x : Nat) (hx : x < 64) : BR (Cy i) (x : Int) = decide (x = i) := by
 rw [AT, Cz]
 by_cases c : x = i
 ·rw [decide_eq_true c, decide_eq_true (by omega)]
 ·rw [decide_eq_false c, decide_eq_false (by omega)]
theorem Ww {t : A5} (h : Kc t) {a : Nat} (ha : a < 64) : ∀ (n b : Nat), b < n → b < t.nodes.length → BR (ovr t b) a = B7 t a b ∧ (B7 t a b = true → Ps t a < Ps t b) := by
 intro n
 induction n with
 | zero => intro b hb; omega
 | succ n ih =>
  intro b hb hl
  have hup := h b hl
  unfold B7
  by_cases c : (t.at b).up < 0
  ·rw [A7S c, Kh h a (by omega), if_pos c]
   exact ⟨by simp [BR], fun h => by cases h⟩
  ·obtain ⟨u, hu⟩ := Int.eq_ofNat_of_zero_le (show 0 ≤ (t.at b).up by omega)
   have hub : u < b := by omega
   obtain ⟨i1, i2⟩ := ih u (by omega) (by omega)
   unfold B7 at i1 i2
   rw [A7h h hl hu, A11 h hl hu, hu, Kh h a (by omega), if_neg (by omega), A9Y, A7p _ _ ha, i1, Int.toNat_natCast]
   by_cases e : a = u
   ·subst e
    rw [if_pos rfl]
    exact ⟨by simp, fun _ => by omega⟩
   ·rw [if_neg (by omega), decide_eq_false e, Bool.or_false]
    exact ⟨rfl, fun h => by have := i2 h; omega⟩
theorem Ad9 {t : A5} (h : Kc t) : ∀ (n i : Nat), i < n → i < t.nodes.length → 0 ≤ Ps t i ∧ Ps t i ≤ i := by
 intro n
 induction n with
 | zero => intro i hi; omega
 | succ n ih =>
  intro i hi hl
  have hup := h i hl
  by_cases c : (t.at i).up < 0
  ·rw [A5p c]; omega
  ·obtain ⟨u, hu⟩ := Int.eq_ofNat_of_zero_le (show 0 ≤ (t.at i).up by omega)
   have := ih u (by omega) (by omega)
   rw [A11 h hl hu]
   omega
def AbH (t : A5) : List Int := (List.range t.nodes.length).map (Ps t)
def Ace (t : A5) : List (BitVec 64) := (List.range t.nodes.length).map (ovr t)
theorem Mc {t : A5} {i : Nat} (h : i < t.nodes.length) : (AbH t)[i]? = some (Ps t i) := by simp [AbH, h]
theorem A5L {t : A5} {i : Nat} (h : i < t.nodes.length) : (Ace t)[i]? = some (ovr t i) := by simp [Ace, h]
theorem Va {t : A5} (h : Kc t) (hn : t.nodes.length ≤ 64) {a b : Nat} (ha : a < t.nodes.length) (hb : b < t.nodes.length) : (decide (Ps t a < Ps t b) && BR (ovr t b) a) = B7 t a b := by
 obtain ⟨h1, h2⟩ := Ww h (a := a) (by omega) (b + 1) b (by omega) hb
 rw [h1]
 cases c : B7 t a b with
 | false => simp
 | true => rw [decide_eq_true (h2 c)]; rfl
theorem A1Q {α : Type} {n k j : Nat} {f : Nat → α} {z : α} (h : j < k) (hn : j < n) : (CA n k f z)[j]? = some (f j) := by
 simp [CA, hn, h]
theorem SR {α : Type} {n k : Nat} {f : Nat → α} {z : α} (h : f k = z) : CA n k f z = CA n (k + 1) f z := by
 unfold CA
 apply List.map_congr_left
 intro j hj
 by_cases e : j = k
 ·subst e; rw [if_neg (by omega), if_pos (by omega), h]
 ·by_cases c : j < k
  ·rw [if_pos c, if_pos (by omega)]
  ·rw [if_neg c, if_neg (by omega)]
end Go.AM

namespace Go.AM
open Go Go.Proofs
theorem A7L (j : Nat) (hj : j < 64) : ∀ (l : List Int) (s : BitVec 64), (l.foldl (fun s i => s ||| Cy i) s).getLsbD j = (s.getLsbD j || Be l (j : Int)) := by
 intro l
 induction l with
 | nil => intro s; simp [Be]
 | cons x l ih =>
  intro s
  rw [List.foldl_cons, ih, BitVec.getLsbD_or, Cz]
  have e : Be (x :: l) (j : Int) = (decide ((j : Int) = x) || Be l (j : Int)) := rfl
  have e2 : decide ((j : Int) = x ∧ j < 64) = decide ((j : Int) = x) := by
   by_cases c : (j : Int) = x <;> simp [c, hj]
  rw [e, e2, Bool.or_assoc]
theorem A3i (l : List Int) {x : Int} (h0 : 0 ≤ x) (h1 : x < 64) : BR (Dv l) x = Be l x := by
 obtain ⟨j, rfl⟩ := Int.eq_ofNat_of_zero_le h0
 rw [AT, Dv, A7L j (by omega)]
 simp
theorem Gf {s : BitVec 64} {x : Int} (h : BR s x = true) : 0 ≤ x ∧ x < 64 := by
 simp only [BR, Bool.and_eq_true, decide_eq_true_eq] at h
 have := BitVec.lt_of_getLsbD h.2
 omega
/-- The numbers of a list that are nodes of a small tree. -/
def Cw (t : A5) (l : List Int) : Prop := ∀ n ∈ l, C3 t n = true
theorem Cw.has {t : A5} (ht : t.nodes.length ≤ 64) {l : List Int} (h : Cw t l) (x : Int) : BR (Dv l) x = Be l x := by
 by_cases c : 0 ≤ x ∧ x < 64
 ·exact A3i l c.1 c.2
 ·have e1 : BR (Dv l) x = false := by
   rw [← Bool.not_eq_true]
   exact fun h => c (Gf h)
  have e2 : Be l x = false := by
   rw [← Bool.not_eq_true]
   intro h'
   obtain ⟨m, rfl, hm⟩ := Aa (h x (Ai.1 h'))
   exact c ⟨by omega, by omega⟩
  rw [e1, e2]
def Bi (t : A5) (has : List Int) (n loc : Int) : Bool := Be has n && HG t n loc
def DZ (t : A5) (l has : List Int) (loc : Int) (i : Nat) : Bool :=
 Bi t has (l.getD i 0) loc && decide (0 ≤ (t.at (l.getD i 0).toNat).thread) && CL l i && (!decide (1 < l.length) || CE (t.at (l.getD i 0).toNat)) && (decide (i = 0) || (l.take i).all fun m => AJ t (l.getD i 0) m)
def El (t : A5) (l has : List Int) (loc : Int) : Bool := (List.range l.length).all (DZ t l has loc) && decide (0 < l.length)
theorem JX {l : List Int} {p : Int → Bool} : ∀ i, i ≤ l.length → (l.take i).all p = (List.range i).all fun k => p (l.getD k 0) := by
 intro i
 induction i with
 | zero => intro _; rfl
 | succ i ih =>
  intro h
  have hi : i < l.length := by omega
  have e := List.take_succ_eq_append_getElem hi
  have e2 : l.getD i 0 = l[i] := by rw [List.getD_eq_getElem?_getD, List.getElem?_eq_getElem hi]; rfl
  rw [e, List.all_append, ih (by omega), List.range_succ, List.all_append, ← e2]
  simp
theorem A4b (t : A5) (l has : List Int) (loc : Int) : El t l has loc = Dp t l has loc := by
 rw [Bool.eq_iff_iff]
 simp only [El, Dp, Bool.and_eq_true, Bool.not_eq_true', decide_eq_true_eq, decide_eq_false_iff_not, Av]
 constructor
 ·rintro ⟨h1, h2⟩
  refine ⟨by omega, fun i hi => ?_⟩
  have := h1 i hi
  simp only [DZ, Bi, Bool.and_eq_true, Bool.or_eq_true, decide_eq_true_eq] at this
  obtain ⟨⟨⟨⟨⟨a, b⟩, c⟩, d⟩, e⟩, f⟩ := this
  simp only [BD, Bool.and_eq_true, decide_eq_true_eq]
  refine ⟨⟨⟨⟨a, d⟩, b⟩, c⟩, ?_⟩
  rw [← JX (p := fun m => AJ t (l.getD i 0) m) i (by omega)]
  rcases f with rfl | f
  ·rfl
  ·exact f
 ·rintro ⟨h1, h2⟩
  refine ⟨fun i hi => ?_, by omega⟩
  have hp : 1 < l.length → CE (t.at (l.getD i 0).toNat) = true := by
   intro hl
   by_cases i0 : i = 0
   ·subst i0
    have := h2 1 hl
    simp only [BD, Bool.and_eq_true, Av] at this
    have := this.2 0 (by omega)
    simp only [AJ, Bool.and_eq_true] at this
    exact this.1.1.2
   ·have := h2 i hi
    simp only [BD, Bool.and_eq_true, Av] at this
    have := this.2 0 (by omega)
    simp only [AJ, Bool.and_eq_true] at this
    exact this.1.1.1
  have := h2 i hi
  simp only [BD, Bool.and_eq_true, decide_eq_true_eq] at this
  obtain ⟨⟨⟨⟨a, d⟩, b⟩, c⟩, f⟩ := this
  simp only [DZ, Bi, Bool.and_eq_true, Bool.or_eq_true, decide_eq_true_eq, Bool.not_eq_true', decide_eq_false_iff_not]
  refine ⟨⟨⟨⟨⟨a, b⟩, c⟩, d⟩, ?_⟩, .inr ?_⟩
  ·by_cases hl : 1 < l.length
   ·exact .inr (hp hl)
   ·exact .inl hl
  ·rw [JX (p := fun m => AJ t (l.getD i 0) m) i (by omega)]; exact f
/-- A location's writes, as they stand. -/
def KW (m : List (List Int)) (loc : Nat) : List Int := (loc : Int) :: (m.drop 1).flatten
def EW (t : A5) (s : Ac) (loc : Nat) : Nat := (s.has.filter fun n => Bi t s.has n loc).length
def L3 (t : A5) (s : Ac) (loc : Nat) : Bool :=
 let m := s.mo.getD loc []
 !decide (m.length = 0) && decide (m.getD 0 [] = [(loc : Int)]) && (m.drop 1).all (fun c => El t c s.has loc) && decide ((KW m loc).length = EW t s loc) && decide ((BX (Dv (KW m loc))).length = EW t s loc)
def DX (t : A5) (s : Ac) : Bool := decide (s.mo.length = t.locs.length) && (List.range s.mo.length).all (L3 t s)
def L7 (t : A5) (s : Ac) : Bool := decide (s.jf.length = s.has.length) && (List.range s.has.length).all (GU t s)
end Go.AM

namespace Go.AM
open Go Go.Proofs
theorem NJ : ∀ (l m : List Int), l.Nodup → (∀ x ∈ l, x ∈ m) → l.length ≤ m.length := by
 intro l
 induction l with
 | nil => intro m _ _; simp
 | cons x l ih =>
  intro m hn hs
  have hx := hs x List.mem_cons_self
  have h1 : x ∉ l := (List.nodup_cons.1 hn).1
  have := ih (m.erase x) (List.nodup_cons.1 hn).2 fun y hy => by
   have : y ≠ x := fun e => h1 (e ▸ hy)
   exact (List.mem_erase_of_ne this).2 (hs y (List.mem_cons_of_mem _ hy))
  rw [List.length_erase_of_mem hx] at this
  have : 0 < m.length := List.length_pos_of_mem hx
  simp only [List.length_cons]
  omega
theorem Acz {l m : List Int} (hn : l.Nodup) (hs : ∀ x ∈ l, x ∈ m) (hl : m.length ≤ l.length) : ∀ x ∈ m, x ∈ l := by
 intro x hx
 refine Classical.byContradiction fun hc => ?_
 have := NJ l (m.erase x) hn fun y hy => (List.mem_erase_of_ne fun (e : y = x) => hc (e ▸ hy)).2 (hs y hy)
 rw [List.length_erase_of_mem hx] at this
 have : 0 < m.length := List.length_pos_of_mem hx
 omega
theorem AeX : ∀ (l S : List Int), S.Nodup → (∀ x ∈ S, x ∈ l) → l.length ≤ S.length → l.Nodup := by
 intro l
 induction l with
 | nil => intro S _ _ _; exact List.nodup_nil
 | cons x l ih =>
  intro S hn hs hl
  by_cases hx : x ∈ l
  ·have := NJ S l hn fun y hy => by
    rcases List.mem_cons.1 (hs y hy) with rfl | h
    ·exact hx
    ·exact h
   simp only [List.length_cons] at hl
   omega
  ·refine List.nodup_cons.2 ⟨hx, ih (S.erase x) (hn.erase x) (fun y hy => ?_) ?_⟩
   ·rcases List.mem_cons.1 (hs y (List.mem_of_mem_erase hy)) with rfl | h
    ·exact absurd hy (List.Nodup.not_mem_erase hn)
    ·exact h
   ·rw [List.length_erase]
    simp only [List.length_cons] at hl
    split <;> omega
theorem RR (n : Int) : ∀ (m : List (List Int)), (∀ c ∈ m, c.Nodup) → (m.filter fun c => Be c n).length = m.flatten.count n := by
 intro m
 induction m with
 | nil => intro _; rfl
 | cons c m ih =>
  intro h
  have h1 := h c List.mem_cons_self
  have h2 := ih fun d hd => h d (List.mem_cons_of_mem _ hd)
  rw [List.flatten_cons, List.count_append, ← h2, List.filter_cons]
  cases e : Be c n with
  | true =>
   have hm : n ∈ c := Ai.1 e
   have := List.nodup_iff_count.1 h1 n
   have : 0 < c.count n := List.count_pos_iff.2 hm
   rw [if_pos rfl, List.length_cons]
   omega
  | false =>
   have hm : n ∉ c := fun h => by rw [Ai.2 h] at e; cases e
   rw [List.count_eq_zero_of_not_mem hm]
   simp
theorem Abx {l : List Int} (h : ∀ i, i < l.length → CL l i = true) : ∀ j, j < l.length → ∀ i, i < j → l.getD i 0 < l.getD j 0 := by
 intro j
 induction j with
 | zero => intro _ i hi; omega
 | succ j ih =>
  intro hj i hi
  have h1 := h (j + 1) hj
  simp only [CL, Bool.or_eq_true, decide_eq_true_eq, Nat.add_sub_cancel] at h1
  have h2 : l.getD j 0 < l.getD (j + 1) 0 := by
   rcases h1 with h1 | h1
   ·omega
   ·exact h1
  by_cases e : i = j
  ·subst e; exact h2
  ·have := ih (by omega) i (by omega); omega
theorem KQ {l : List Int} (h : ∀ i, i < l.length → CL l i = true) : l.Nodup := by
 rw [List.nodup_iff_pairwise_ne, List.pairwise_iff_getElem]
 intro i j hi hj hij e
 have := Abx h j hj i hij
 rw [List.getD_eq_getElem?_getD, List.getElem?_eq_getElem hi, List.getD_eq_getElem?_getD, List.getElem?_eq_getElem hj, Option.getD_some, Option.getD_some, e] at this
 omega
theorem Wi (w : BitVec 64) : (BX w).Nodup := List.Nodup.sublist List.filter_sublist List.nodup_range
/-- The set of a list of small numbers, as a list. -/
theorem A7A {t : A5} (h64 : t.nodes.length ≤ 64) {l : List Int} (h : Cw t l) (x : Int) : x ∈ (BX (Dv l)).map (fun (j : Nat) => (j : Int)) ↔ x ∈ l := by
 constructor
 ·intro hx
  obtain ⟨j, hj, rfl⟩ := List.mem_map.1 hx
  obtain ⟨j1, j2⟩ := Qg hj
  have := h.has h64 (j : Int)
  rw [AT, j2] at this
  exact Ai.1 this.symm
 ·intro hx
  obtain ⟨m, rfl, hm⟩ := Aa (h x hx)
  refine List.mem_map.2 ⟨m, KA.2 ?_, rfl⟩
  have := h.has h64 (m : Int)
  rw [AT, Ai.2 hx] at this
  exact this
theorem ZE (w : BitVec 64) : ((BX w).map fun (j : Nat) => (j : Int)).Nodup := by
 rw [List.nodup_iff_pairwise_ne, List.pairwise_map]
 have := List.nodup_iff_pairwise_ne.1 (Wi w)
 exact this.imp fun h e => h (by omega)
/-- All stand once, said in two ways. -/
theorem A6K {t : A5} (h64 : t.nodes.length ≤ 64) {all W : List Int} (ha : Cw t all) (hw : W.Nodup) (hs : ∀ x ∈ all, x ∈ W) :
  (all.length = W.length ∧ (BX (Dv all)).length = W.length) ↔ ∀ n ∈ W, all.count n = 1 := by
 have hS := ZE (Dv all)
 have hm := fun x => A7A h64 ha x
 have hl : ((BX (Dv all)).map fun (j : Nat) => (j : Int)).length = (BX (Dv all)).length := List.length_map ..
 generalize ((BX (Dv all)).map fun (j : Nat) => (j : Int)) = S at *
 rw [← hl]
 constructor
 ·rintro ⟨h1, h2⟩ n hn
  have nd := AeX all S hS (fun x hx => (hm x).1 hx) (by omega)
  have hmem := Acz nd hs (by omega) n hn
  have c1 := List.nodup_iff_count.1 nd n
  have c2 : 0 < all.count n := List.count_pos_iff.2 hmem
  omega
 ·intro h
  have nd : all.Nodup := by
   rw [List.nodup_iff_count]
   intro x
   by_cases hx : x ∈ all
   ·rw [h x (hs x hx)]; exact Nat.le_refl _
   ·rw [List.count_eq_zero_of_not_mem hx]; omega
  have hmem : ∀ x ∈ W, x ∈ all := fun x hx => List.count_pos_iff.1 (by rw [h x hx]; decide)
  have a1 := NJ all W nd hs
  have a2 := NJ W all hw hmem
  have a3 := NJ all S nd fun x hx => (hm x).2 hx
  have a4 := NJ S all hS fun x hx => (hm x).1 hx
  omega
end Go.AM

namespace Go.AM
open Go Go.Proofs
theorem LV {t : A5} {l : List Int} (h : C8 t l = true) : Cw t l ∧ l.Nodup ∧ (LU t ||| Dv l = Dv l) := by
 simp only [C8, Bool.and_eq_true, decide_eq_true_eq] at h
 have hr := Av.1 h.1
 refine ⟨fun n hn => ?_, KQ fun i hi => ?_, h.2⟩
 ·obtain ⟨k, hk, rfl⟩ := List.mem_iff_getElem.1 hn
  have := hr k hk
  simp only [Ca, Bool.and_eq_true] at this
  have := this.1.1
  rw [List.getD_eq_getElem?_getD, List.getElem?_eq_getElem hk] at this
  exact this
 ·have := hr i hi
  simp only [Ca, Bool.and_eq_true] at this
  exact this.1.2
theorem Aa4 {t : A5} (ht : Aj t) {l : List Int} (h : C8 t l = true) {k : Nat} (hk : k < t.locs.length) : (k : Int) ∈ l := by
 obtain ⟨hn, _, hi⟩ := LV h
 have hkn : k < t.nodes.length := Nat.lt_of_lt_of_le hk ht.first.1
 have h64 := ht.n64
 have e : (LU t).getLsbD k = true := by
  unfold LU
  rw [AH, decide_eq_true hkn, (ht.init k hk).up, decide_eq_true (show k < 64 by omega)]; rfl
 have e2 : (Dv l).getLsbD k = true := by rw [← hi, BitVec.getLsbD_or, e]; rfl
 have := hn.has h64 (k : Int)
 rw [AT, e2] at this
 exact Ai.1 this.symm
theorem V0 {t : A5} {l has : List Int} {loc : Int} (h : Dp t l has loc = true) : l.Nodup ∧ ∀ n ∈ l, Bi t has n loc = true := by
 simp only [Dp, Bool.and_eq_true] at h
 have hr := Av.1 h.2
 refine ⟨KQ fun i hi => ?_, fun n hn => ?_⟩
 ·have := hr i hi
  simp only [BD, Bool.and_eq_true] at this
  exact this.1.1.1.2
 ·obtain ⟨k, hk, rfl⟩ := List.mem_iff_getElem.1 hn
  have := hr k hk
  simp only [BD, Bool.and_eq_true] at this
  have h1 := this.1.1.1.1
  have h2 := this.1.1.2
  rw [List.getD_eq_getElem?_getD, List.getElem?_eq_getElem hk, Option.getD_some] at h1 h2
  simp only [Bi, Bool.and_eq_true]
  exact ⟨h1, h2⟩
theorem WQ {t : A5} {s : Ac} {k : Nat} : JB t s k = true ↔ ∃ D, s.mo.getD k [] = [(k : Int)] :: D ∧ ∀ c ∈ D, Dp t c s.has k = true := by
 simp only [JB, Bool.and_eq_true, Bool.not_eq_true', decide_eq_false_iff_not, decide_eq_true_eq, Av, Bool.or_eq_true]
 generalize s.mo.getD k [] = m
 constructor
 ·rintro ⟨⟨h1, h2⟩, h3⟩
  rcases m with _ | ⟨c, D⟩
  ·simp at h1
  ·refine ⟨D, by rw [show c = [(k : Int)] from h2], fun d hd => ?_⟩
   obtain ⟨j, hj, rfl⟩ := List.mem_iff_getElem.1 hd
   have := h3 (j + 1) (by simp; omega)
   rcases this with h | h
   ·omega
   ·simpa [List.getD_eq_getElem?_getD, hj] using h
 ·rintro ⟨D, rfl, h⟩
  refine ⟨⟨by simp, rfl⟩, fun i hi => ?_⟩
  rcases i with _ | i
  ·exact .inl rfl
  ·refine .inr ?_
   have hi' : i < D.length := by simpa using hi
   have := h D[i] (List.getElem_mem hi')
   simpa [List.getD_eq_getElem?_getD, hi'] using this
theorem R6 {t : A5} {s : Ac} {k : Nat} : L3 t s k = true ↔ ∃ D, s.mo.getD k [] = [(k : Int)] :: D ∧ (∀ c ∈ D, Dp t c s.has k = true) ∧ ((s.mo.getD k []).flatten.length = EW t s k ∧ (BX (Dv (s.mo.getD k []).flatten)).length = EW t s k) := by
 simp only [L3, Bool.and_eq_true, Bool.not_eq_true', decide_eq_false_iff_not, decide_eq_true_eq, List.all_eq_true, A4b]
 generalize s.mo.getD k [] = m
 constructor
 ·rintro ⟨⟨⟨⟨h1, h2⟩, h3⟩, h4⟩, h5⟩
  rcases m with _ | ⟨c, D⟩
  ·simp at h1
  ·have e : c = [(k : Int)] := h2
   subst e
   exact ⟨D, rfl, h3, h4, h5⟩
 ·rintro ⟨D, rfl, h3, h4, h5⟩
  exact ⟨⟨⟨⟨by simp, rfl⟩, h3⟩, h4⟩, h5⟩
theorem A1n {t : A5} (ht : Aj t) {s : Ac} (hn : C8 t s.has = true) {i : Nat} (hi : i < s.has.length) : Mk t s i = true ↔ ((t.at (s.has.getD i 0).toNat).kind = 3 → ((s.mo.getD (t.at (s.has.getD i 0).toNat).loc.toNat []).filter fun c => Be c (s.has.getD i 0)).length = 1) := by
 simp only [Mk, Bool.or_eq_true, Bool.not_eq_true', decide_eq_false_iff_not, decide_eq_true_eq]
 constructor
 ·rintro (h | h) k
  ·exact absurd k h
  ·exact h
 ·intro h
  by_cases k : (t.at (s.has.getD i 0).toNat).kind = 3
  ·exact .inr (h k)
  ·exact .inl k
theorem Adb (t : A5) (ht : Aj t) (s : Ac) : (C8 t s.has && L7 t s && DX t s) = BM t s := by
 cases hn : C8 t s.has with
 | false => simp [BM, hn]
 | true =>
 obtain ⟨hN, hnd, _⟩ := LV hn
 have h64 := ht.n64
 by_cases hm : ¬ s.mo.length = t.locs.length
 ·simp [BM, DX, hm]
 have hm := Decidable.not_not.1 hm
 rw [Bool.eq_iff_iff]
 simp only [BM, DX, L7, hn, decide_eq_true hm, Bool.true_and, Bool.and_true, Bool.and_eq_true, decide_eq_true_eq]
 have key : (∀ k, k < s.mo.length → L3 t s k = true) ↔ ((∀ k, k < s.mo.length → JB t s k = true) ∧ ∀ i, i < s.has.length → Mk t s i = true) := by
  have W : ∀ k, k < s.mo.length → ∀ D, s.mo.getD k [] = [(k : Int)] :: D → (∀ c ∈ D, Dp t c s.has k = true) →
    (((s.mo.getD k []).flatten.length = EW t s k ∧ (BX (Dv (s.mo.getD k []).flatten)).length = EW t s k) ↔ ∀ n ∈ s.has, Bi t s.has n k = true → ((s.mo.getD k []).filter fun c => Be c n).length = 1) := by
   intro k hk D hD hc
   have hk' : k < t.locs.length := by omega
   have hin := Aa4 ht hn hk'
   have hwk : Bi t s.has k k = true := by
    simp only [Bi, HG, Bool.and_eq_true, decide_eq_true_eq, Int.toNat_natCast]
    exact ⟨Ai.2 hin, (ht.init k hk').kind, (ht.init k hk').loc⟩
   have hcw : ∀ c ∈ s.mo.getD k [], c.Nodup ∧ ∀ n ∈ c, Bi t s.has n k = true := by
    intro c hcm
    rw [hD] at hcm
    rcases List.mem_cons.1 hcm with rfl | h
    ·refine ⟨by simp, fun n hn => ?_⟩
     rw [List.mem_singleton.1 hn]; exact hwk
    ·exact V0 (hc c h)
   have hsub : ∀ x ∈ (s.mo.getD k []).flatten, x ∈ s.has.filter fun n => Bi t s.has n k := by
    intro x hx
    obtain ⟨c, hc1, hc2⟩ := List.mem_flatten.1 hx
    have := (hcw c hc1).2 x hc2
    refine List.mem_filter.2 ⟨?_, this⟩
    simp only [Bi, Bool.and_eq_true] at this
    exact Ai.1 this.1
   have hNa : Cw t (s.mo.getD k []).flatten := fun x hx => hN x (List.mem_filter.1 (hsub x hx)).1
   have := A6K h64 (W := s.has.filter fun n => Bi t s.has n k) hNa (List.Nodup.sublist List.filter_sublist hnd) hsub
   rw [show EW t s k = (s.has.filter fun n => Bi t s.has n k).length from rfl, this]
   constructor
   ·intro h n hn1 hn2
    rw [RR n _ fun c hc => (hcw c hc).1]
    exact h n (List.mem_filter.2 ⟨hn1, hn2⟩)
   ·intro h n hn1
    obtain ⟨a, b⟩ := List.mem_filter.1 hn1
    rw [← RR n _ fun c hc => (hcw c hc).1]
    exact h n a b
  constructor
  ·intro h
   refine ⟨fun k hk => ?_, fun i hi => ?_⟩
   ·obtain ⟨D, hD, hc, _⟩ := R6.1 (h k hk)
    exact WQ.2 ⟨D, hD, hc⟩
   ·rw [A1n ht hn hi]
    intro k3
    have hmem : s.has.getD i 0 ∈ s.has := Ap hi
    obtain ⟨m, hm1, hm2⟩ := Aa (hN _ hmem)
    rw [hm1, Int.toNat_natCast] at k3 ⊢
    obtain ⟨l1, l2⟩ := ht.wloc hm2 (.inr k3)
    obtain ⟨lc, hlc⟩ := Int.eq_ofNat_of_zero_le l1
    rw [hlc, Int.toNat_natCast]
    have hk : lc < s.mo.length := by omega
    obtain ⟨D, hD, hc, hl⟩ := R6.1 (h lc hk)
    refine (W lc hk D hD hc).1 hl m (hm1 ▸ hmem) ?_
    simp only [Bi, HG, Bool.and_eq_true, decide_eq_true_eq, Int.toNat_natCast]
    exact ⟨Ai.2 (hm1 ▸ hmem), k3, hlc⟩
  ·rintro ⟨h1, h2⟩ k hk
   obtain ⟨D, hD, hc⟩ := WQ.1 (h1 k hk)
   refine R6.2 ⟨D, hD, hc, (W k hk D hD hc).2 fun n hn1 hn2 => ?_⟩
   obtain ⟨i, hi, rfl⟩ := List.mem_iff_getElem.1 hn1
   have e : s.has.getD i 0 = s.has[i] := by rw [List.getD_eq_getElem?_getD, List.getElem?_eq_getElem hi]; rfl
   have := (A1n ht hn hi).1 (h2 i hi)
   rw [e] at this
   simp only [Bi, HG, Bool.and_eq_true, decide_eq_true_eq] at hn2
   have h3 := this hn2.2.1
   rw [hn2.2.2, Int.toNat_natCast] at h3
   exact h3
 rw [Av, Av (n := s.mo.length), key, Av, Av]
 constructor
 ·rintro ⟨⟨a, b⟩, c, d⟩; exact ⟨⟨⟨a, b⟩, c⟩, d⟩
 ·rintro ⟨⟨⟨a, b⟩, c⟩, d⟩; exact ⟨⟨a, b⟩, c, d⟩
end Go.AM

namespace Go.AM
open Go Go.Proofs
/-- A relation of nodes, as rows. -/
def AB (n : Nat) (p : Nat → Nat → Bool) : BY := (List.range n).map fun a => Bz fun b => decide (b < n) && p a b
theorem BG {n : Nat} {p : Nat → Nat → Bool} : (AB n p).length = n := by simp [AB]
theorem E0 {n : Nat} {p : Nat → Nat → Bool} {a : Nat} (h : a < n) : (AB n p)[a]? = some (Bz fun b => decide (b < n) && p a b) := by simp [AB, h]
theorem X8 {n : Nat} {p : Nat → Nat → Bool} {a b : Nat} (hn : n ≤ 64) (h : a < n) (hb : b < n) : BR ((AB n p).getD a 0#64) (b : Int) = p a b := by
 rw [List.getD_eq_getElem?_getD, E0 h, Option.getD_some, AT, AH, decide_eq_true hb, decide_eq_true (show b < 64 by omega)]
 simp
def Dw (t : A5) (x f : List Int) (i : Nat) : Bool :=
 if (t.at (x.getD i 0).toNat).kind = 2 then Be x (f.getD i 0) && HG t (f.getD i 0) (t.at (x.getD i 0).toNat).loc else decide (f.getD i 0 = -1)
def Bb (t : A5) (x : List Int) (i : Nat) : Bool := C3 t (x.getD i 0) && CL x i
def Cv (t : A5) (x f : List Int) : Bool := decide (x.length = f.length) && (List.range x.length).all (Bb t x) && (List.range x.length).all (Dw t x f)
def Jx (x f : List Int) (n : Int) : Int := if Be x n then f.getD (LM x n).toNat 0 else -1
structure En (t : A5) (x f : List Int) : Prop where
 len : x.length = f.length
 node : Cw t x
 nd : x.Nodup
 at_ : ∀ i, i < x.length → Jx x f (x.getD i 0) = f.getD i 0
 read : ∀ n, n ∈ x → (t.at n.toNat).kind = 2 → Jx x f n ∈ x ∧ (t.at (Jx x f n).toNat).kind = 3 ∧ (t.at (Jx x f n).toNat).loc = (t.at n.toNat).loc
 none : ∀ n, n ∈ x → (t.at n.toNat).kind ≠ 2 → Jx x f n = -1
theorem Pf {x : List Int} (h : x.Nodup) {i : Nat} (hi : i < x.length) : LM x (x.getD i 0) = i := by
 have hm : Be x (x.getD i 0) = true := Ai.2 (Ap hi)
 obtain ⟨k, e, hk, h1, h2⟩ := Ey hm
 rw [e]
 have : k = i := by
  rw [List.getD_eq_getElem?_getD, List.getD_eq_getElem?_getD, List.getElem?_eq_getElem hk, List.getElem?_eq_getElem hi] at h1
  rw [Option.getD_some, Option.getD_some] at h1
  rcases Nat.lt_trichotomy k i with c | c | c
  ·exact absurd h1 (List.pairwise_iff_getElem.1 h k i hk hi c)
  ·exact c
  ·exact absurd h1.symm (List.pairwise_iff_getElem.1 h i k hi hk c)
 rw [this]
theorem GG {t : A5} {x f : List Int} (h : Cv t x f = true) : En t x f := by
 simp only [Cv, Bool.and_eq_true, decide_eq_true_eq, Av, Bb] at h
 obtain ⟨⟨h1, h2⟩, h3⟩ := h
 have hnode : Cw t x := by
  intro n hn
  obtain ⟨i, hi, rfl⟩ := List.getElem_of_mem hn
  have := (h2 i hi).1
  rwa [List.getD_eq_getElem?_getD, List.getElem?_eq_getElem hi] at this
 have hnd : x.Nodup := KQ fun i hi => (h2 i hi).2
 have hat : ∀ i, i < x.length → Jx x f (x.getD i 0) = f.getD i 0 := by
  intro i hi
  unfold Jx
  rw [if_pos (Ai.2 (Ap hi)), Pf hnd hi, Int.toNat_natCast]
 refine ⟨h1, hnode, hnd, hat, ?_, ?_⟩
 ·intro n hn hk
  obtain ⟨i, hi, rfl⟩ := List.getElem_of_mem hn
  have e : x[i] = x.getD i 0 := by rw [List.getD_eq_getElem?_getD, List.getElem?_eq_getElem hi]; rfl
  have h3i := h3 i hi
  rw [e] at hk ⊢
  rw [hat i hi]
  simp only [Dw, hk, if_true, Bool.and_eq_true, HG, decide_eq_true_eq, Ai] at h3i
  exact ⟨h3i.1, h3i.2.1, h3i.2.2⟩
 ·intro n hn hk
  obtain ⟨i, hi, rfl⟩ := List.getElem_of_mem hn
  have e : x[i] = x.getD i 0 := by rw [List.getD_eq_getElem?_getD, List.getElem?_eq_getElem hi]; rfl
  have h3i := h3 i hi
  rw [e] at hk ⊢
  rw [hat i hi]
  simp only [Dw, hk, if_false, decide_eq_true_eq] at h3i
  exact h3i
def Yp (t : A5) (x f : List Int) (w : Int) : Int := if (t.at w.toNat).rmw = true ∧ Be x (t.at w.toNat).up = true then Jx x f (t.at w.toNat).up else -1
def A6q (t : A5) (x : List Int) (w : Int) (n : Nat) : Bool := (decide ((n : Int) = w) && E8 (t.at n)) || (Be x (n : Int) && decide ((t.at n).kind = 4) && E8 (t.at n) && Aw t n w)
def Mu (t : A5) (x : List Int) (w : Int) : BitVec 64 := Bz (A6q t x w)
/-- Does the way end here? -/
def HL (t : A5) (w : Int) : Bool := decide (w < 0) || decide ((t.at w.toNat).thread < 0)
def JD (t : A5) (x f : List Int) : Nat → Int → BitVec 64
 | 0, _ => 0#64
 | k + 1, w => if HL t w = true then 0#64 else Mu t x w ||| JD t x f k (Yp t x f w)
def AN (t : A5) (x f : List Int) (w : Int) : BitVec 64 := JD t x f (x.length + 1) w
def Hy (t : A5) (x f : List Int) : Nat → Int → Int
 | 0, w => w
 | k + 1, w => Yp t x f (Hy t x f k w)
theorem K9 (t : A5) (x f : List Int) : ∀ (k : Nat) (w : Int), Hy t x f (k + 1) w = Hy t x f k (Yp t x f w)
 | 0, w => rfl
 | k + 1, w => by rw [Hy, K9 t x f k w]; rfl
theorem HT (t : A5) (x f : List Int) (b : Nat) : ∀ (k : Nat) (w : Int), (JD t x f k w).getLsbD b = true ↔ ∃ j, j < k ∧ (∀ i, i ≤ j → HL t (Hy t x f i w) = false) ∧ (Mu t x (Hy t x f j w)).getLsbD b = true
 | 0, w => by simp [JD]
 | k + 1, w => by
  rw [JD]
  by_cases c : HL t w = true
  ·rw [if_pos c]
   constructor
   ·intro h; simp at h
   ·rintro ⟨j, _, h, _⟩
    have := h 0 (Nat.zero_le _)
    rw [Hy, c] at this; cases this
  ·rw [if_neg c, BitVec.getLsbD_or, Bool.or_eq_true, HT t x f b k]
   constructor
   ·rintro (h | ⟨j, h1, h2, h3⟩)
    ·exact ⟨0, by omega, fun i hi => by rw [Nat.le_zero.1 hi]; exact Bool.eq_false_iff.2 c, h⟩
    ·refine ⟨j + 1, by omega, fun i hi => ?_, by rw [K9]; exact h3⟩
     rcases i with _ | i
     ·exact Bool.eq_false_iff.2 c
     ·rw [K9]; exact h2 i (by omega)
   ·rintro ⟨j, h1, h2, h3⟩
    rcases j with _ | j
    ·exact .inl h3
    ·refine .inr ⟨j, by omega, fun i hi => ?_, by rw [K9] at h3; exact h3⟩
     have := h2 (i + 1) (by omega)
     rwa [K9] at this
/-- The union over the first so many of the way. -/
def R4 (t : A5) (x f : List Int) (w : Int) (i : Nat) : BitVec 64 := (List.range i).foldl (fun s j => s ||| Mu t x (Hy t x f j w)) 0#64
theorem A0w (t : A5) (x f : List Int) (w : Int) (i : Nat) : R4 t x f w (i + 1) = R4 t x f w i ||| Mu t x (Hy t x f i w) := by
 unfold R4
 rw [List.range_succ, List.foldl_append]
 rfl
theorem Sh (t : A5) (x f : List Int) (w : Int) (b : Nat) (i : Nat) : (R4 t x f w i).getLsbD b = true ↔ ∃ j, j < i ∧ (Mu t x (Hy t x f j w)).getLsbD b = true := by
 unfold R4
 rw [UH]
 simp [List.any_eq_true]
/-- The way that has been gone. -/
def JM (t : A5) (x f : List Int) (w : Int) (i : Nat) : List Int := (List.range i).map fun j => Hy t x f j w
theorem Sw (t : A5) (x f : List Int) (w : Int) (i : Nat) : JM t x f w (i + 1) = JM t x f w i ++ [Hy t x f i w] := by
 unfold JM
 rw [List.range_succ, List.map_append]
 rfl
theorem Pn {t : A5} {x f : List Int} {w : Int} {i : Nat} {v : Int} : v ∈ JM t x f w i ↔ ∃ j, j < i ∧ Hy t x f j w = v := by
 simp [JM]
theorem A2p {t : A5} (ht : Aj t) {x f : List Int} (h : En t x f) {w : Int} (hw : w ∈ x) : Yp t x f w = -1 ∨ (Yp t x f w ∈ x ∧ (t.at (Yp t x f w).toNat).kind = 3) := by
 unfold Yp
 by_cases c : (t.at w.toNat).rmw = true ∧ Be x (t.at w.toNat).up = true
 ·rw [if_pos c]
  obtain ⟨m, rfl, hm⟩ := Aa (h.node w hw)
  rw [Int.toNat_natCast] at c ⊢
  have hl : t.locs.length ≤ m := by
   rcases Nat.lt_or_ge m t.locs.length with h1 | h1
   ·have := ht.first.2 m h1
    simp only [Je, Bool.and_eq_true] at this
    have h3 := this.1.1.2
    rw [c.1] at h3; cases h3
   ·exact h1
  obtain ⟨_, k2⟩ := (ht.good m hl hm).rmw c.1
  obtain ⟨r1, r2, _⟩ := h.read _ (Ai.1 c.2) k2
  exact .inr ⟨r1, r2⟩
 ·rw [if_neg c]; exact .inl rfl
theorem LF {t : A5} (ht : Aj t) {x f : List Int} (h : En t x f) {w : Int} (hw : w ∈ x) : ∀ (i : Nat), (∀ j, j < i → HL t (Hy t x f j w) = false) → Hy t x f i w = -1 ∨ Hy t x f i w ∈ x
 | 0, _ => .inr hw
 | i + 1, hi => by
  rcases LF ht h hw i (fun j hj => hi j (by omega)) with e | e
  ·have := hi i (by omega)
   rw [e] at this; cases this
  ·rcases A2p ht h e with e | e
   ·exact .inl e
   ·exact .inr e.1
/-- What the program's walk comes to. -/
theorem A8M {t : A5} (ht : Aj t) {x f : List Int} (h : En t x f) {w : Int} (hw : w ∈ x) {i : Nat} (hoff : ∀ j, j < i → HL t (Hy t x f j w) = false) (hnd : (JM t x f w i).Nodup)
  (he : HL t (Hy t x f i w) = true ∨ Hy t x f i w ∈ JM t x f w i) : R4 t x f w i = AN t x f w := by
 have hil : i ≤ x.length := by
  have h1 : (JM t x f w i).length = i := by simp [JM]
  rw [← h1]
  refine NJ _ _ hnd fun v hv => ?_
  obtain ⟨j, hj, rfl⟩ := Pn.1 hv
  rcases LF ht h hw j (fun k hk => hoff k (by omega)) with e | e
  ·have := hoff j hj
   rw [e] at this; cases this
  ·exact e
 apply Yj.anti
 ·intro b hb
  obtain ⟨j, hj, h1⟩ := (Sh _ _ _ _ _ _).1 hb
  exact (HT _ _ _ _ _ _).2 ⟨j, by omega, fun k hk => hoff k (by omega), h1⟩
 ·intro b hb
  obtain ⟨j, hj, h1, h2⟩ := (HT _ _ _ _ _ _).1 hb
  have key : ∀ j, (∀ k, k ≤ j → HL t (Hy t x f k w) = false) → ∃ j', j' < i ∧ Hy t x f j' w = Hy t x f j w := by
   intro j
   induction j with
   | zero =>
    intro hk
    rcases Nat.eq_zero_or_pos i with e | e
    ·subst e
     rcases he with he | he
     ·rw [hk 0 (Nat.le_refl _)] at he; cases he
     ·simp [JM] at he
    ·exact ⟨0, e, rfl⟩
   | succ j ih =>
    intro hk
    obtain ⟨j', h3, h4⟩ := ih fun k hk' => hk k (by omega)
    have e5 : Hy t x f (j' + 1) w = Hy t x f (j + 1) w := by rw [Hy, Hy, h4]
    rcases Nat.lt_or_ge (j' + 1) i with h5 | h5
    ·exact ⟨j' + 1, h5, e5⟩
    ·have e6 : j' + 1 = i := by omega
     rw [e6] at e5
     rcases he with he | he
     ·rw [e5, hk (j + 1) (Nat.le_refl _)] at he; cases he
     ·obtain ⟨j3, h6, h7⟩ := Pn.1 he
      exact ⟨j3, h6, h7.trans e5⟩
  obtain ⟨j', h3, h4⟩ := key j h1
  exact (Sh _ _ _ _ _ _).2 ⟨j', h3, by rw [h4]; exact h2⟩
def EF (t : A5) (x : List Int) (r : Int) (n : Nat) : Bool := (decide ((n : Int) = r) && J3 (t.at n)) || (Be x (n : Int) && decide ((t.at n).kind = 4) && J3 (t.at n) && Aw t r n)
def JL (t : A5) (x f : List Int) (r : Int) : Bool := decide ((t.at r.toNat).kind = 2) && !decide ((t.at (Jx x f r).toNat).thread = (t.at r.toNat).thread)
def swB (t : A5) (x f : List Int) (a b : Nat) : Bool := x.any fun r => JL t x f r && BR (AN t x f (Jx x f r)) (a : Int) && EF t x r b
def Ns (t : A5) (x f : List Int) (a b : Nat) : Bool := (Be x (a : Int) && Be x (b : Int) && Aw t a b) || swB t x f a b
def Wt (t : A5) (x f : List Int) : BY := Et (AB t.nodes.length (Ns t x f))
theorem Kt {n : Nat} (hn : n ≤ 64) (p : Nat → Nat → Bool) : Dn (AB n p) = true := by
 simp only [Dn, Bool.and_eq_true, decide_eq_true_eq, List.all_eq_true, BG]
 refine ⟨hn, fun r hr => ?_⟩
 obtain ⟨a, ha, rfl⟩ := List.mem_map.1 hr
 apply BV
 intro j hj
 rw [BitVec.getLsbD_and, BitVec.getLsbD_not, AH, D2, AH]
 by_cases c : j < n
 ·simp [c, hj]
 ·simp [c]
theorem Jg {n : Nat} {p : Nat → Nat → Bool} {a : Nat} (h : a < n) : (AB n p).getD a 0#64 = Bz fun b => decide (b < n) && p a b := by
 rw [List.getD_eq_getElem?_getD, E0 h, Option.getD_some]
theorem B0 {n : Nat} {p q : Nat → Nat → Bool} (h : ∀ a b, a < n → b < n → p a b = q a b) : AB n p = AB n q := by
 unfold AB
 apply List.map_congr_left
 intro a ha
 apply Bd
 intro b _
 by_cases c : b < n
 ·rw [h a b (List.mem_range.1 ha) c]
 ·simp [c]
theorem A5r {n : Nat} (hn : n ≤ 64) (p q : Nat → Nat → Bool) : orF (AB n p) (AB n q) = AB n fun a b => p a b || q a b := by
 unfold orF
 rw [Kt hn, Kt hn, BG, BG]
 simp only [decide_true, Bool.and_self, if_true]
 apply List.map_congr_left
 intro a ha
 have h := List.mem_range.1 ha
 rw [Jg h, Jg h]
 apply BV
 intro j hj
 rw [BitVec.getLsbD_or, AH, AH, AH]
 cases decide (j < n) <;> cases decide (j < 64) <;> simp
theorem A0G {n : Nat} (hn : n ≤ 64) (p : Nat → Nat → Bool) (s : BitVec 64) : Xe (AB n p) s = AB n fun a b => BR s a && BR s b && p a b := by
 unfold Xe
 rw [Kt hn, BG]
 simp only [if_true]
 apply List.map_congr_left
 intro a ha
 have h := List.mem_range.1 ha
 rw [Jg h]
 cases c : BR s (a : Int) with
 | false =>
  simp only [Bool.false_and, Bool.and_false, Bool.false_eq_true, if_false, c]
  exact Ge.symm
 | true =>
  simp only [if_true, Bool.true_and, c]
  apply BV
  intro j hj
  rw [BitVec.getLsbD_and, AH, AH]
  simp only [AT]
  cases decide (j < n) <;> cases decide (j < 64) <;> cases s.getLsbD j <;> simp
end Go.AM

namespace Go.AM
open Go Go.Proofs
theorem Dg {s : BitVec 64} {x : Int} : x ∈ Az s ↔ BR s x = true := by
 unfold Az
 rw [List.mem_map]
 constructor
 ·rintro ⟨i, hi, rfl⟩
  rw [AT]; exact KA.1 hi
 ·intro h
  obtain ⟨h1, h2⟩ := Gf h
  obtain ⟨m, rfl⟩ := Int.eq_ofNat_of_zero_le h1
  rw [AT] at h
  exact ⟨m, KA.2 h, rfl⟩
theorem Cw.list {t : A5} (ht : t.nodes.length ≤ 64) {l : List Int} (h : Cw t l) (x : Int) : x ∈ Az (Dv l) ↔ x ∈ l := by
 rw [Dg, h.has ht, Ai]
/-- A set that is put together by going through a list. -/
def CX (p : Int → Bool) (s : BitVec 64) (l : List Int) : BitVec 64 := l.foldl (fun s n => if p n = true then s ||| Cy n else s) s
theorem Nj (p : Int → Bool) (j : Nat) (hj : j < 64) : ∀ (l : List Int) (s : BitVec 64), (CX p s l).getLsbD j = (s.getLsbD j || (Be l (j : Int) && p (j : Int))) := by
 intro l
 induction l with
 | nil => intro s; simp [CX, Be]
 | cons x l ih =>
  intro s
  show (CX p (if p x = true then s ||| Cy x else s) l).getLsbD j = _
  rw [ih]
  have e : Be (x :: l) (j : Int) = (decide ((j : Int) = x) || Be l (j : Int)) := rfl
  rw [e]
  by_cases c : (j : Int) = x
  ·subst c
   cases hp : p (j : Int) with
   | false => simp
   | true =>
    rw [if_pos rfl, BitVec.getLsbD_or, Cz]
    simp [hj]
  ·have : (Cy x).getLsbD j = false := by rw [Cz]; simp [c]
   by_cases hp : p x = true
   ·rw [if_pos hp, BitVec.getLsbD_or, this]; simp [c]
   ·rw [if_neg hp]; simp [c]
theorem Jt {p : Int → Bool} {s : BitVec 64} {l : List Int} {k : Nat} (hk : k < l.length) : CX p s (l.take (k + 1)) = if p (l.getD k 0) = true then CX p s (l.take k) ||| Cy (l.getD k 0) else CX p s (l.take k) := by
 unfold CX
 rw [List.take_succ_eq_append_getElem hk, List.foldl_append, List.getD_eq_getElem?_getD, List.getElem?_eq_getElem hk]
 rfl
theorem A9Z {p : Int → Bool} {s : BitVec 64} {l : List Int} {k : Nat} (hk : k < l.length) (h : p (l.getD k 0) = true) : CX p s (l.take k) ||| Cy (l.getD k 0) = CX p s (l.take (k + 1)) := by rw [Jt hk, if_pos h]
theorem Pi {p : Int → Bool} {s : BitVec 64} {l : List Int} {k : Nat} (hk : k < l.length) (h : p (l.getD k 0) = false) : CX p s (l.take k) = CX p s (l.take (k + 1)) := by rw [Jt hk, if_neg (by rw [h]; simp)]
/-- One row of a relation is widened. -/
theorem A6l {n a : Nat} (ha : a < n) (p : Nat → Nat → Bool) (q : Nat → Bool) (hq : ∀ b, q b = true → b < n) : (AB n p).set a ((AB n p).getD a 0#64 ||| Bz q) = AB n fun i b => p i b || (decide (i = a) && q b) := by
 apply List.ext_getElem
 ·simp [AB]
 ·intro i h1 h2
  have hi : i < n := by simpa [AB] using h2
  rw [List.getElem_set]
  by_cases c : a = i
  ·subst c
   rw [if_pos rfl, Jg ha]
   have : (AB n fun i b => p i b || (decide (i = a) && q b))[a] = Bz fun b => decide (b < n) && (p a b || (decide (a = a) && q b)) := by simp [AB]
   rw [this]
   apply BV
   intro j hj
   rw [BitVec.getLsbD_or, AH, AH, AH]
   cases hqj : q j with
   | false => simp
   | true => have := hq j hqj; simp [this, hj]
  ·rw [if_neg c]
   have c' : ¬ i = a := fun e => c e.symm
   have e1 : (AB n p)[i]'(by simpa [AB] using hi) = Bz fun b => decide (b < n) && p i b := by simp [AB]
   have e2 : (AB n fun i b => p i b || (decide (i = a) && q b))[i] = Bz fun b => decide (b < n) && (p i b || (decide (i = a) && q b)) := by simp [AB]
   rw [e1, e2]
   apply Bd
   intro j _
   simp [c']
theorem SC (n : Nat) : AB n (fun _ _ => false) = List.replicate n 0#64 := by
 apply List.ext_getElem
 ·simp [AB]
 ·intro i h1 h2
  simp only [AB, List.getElem_map, List.getElem_replicate, Bool.and_false]
  exact Ge
/-- What is known, one by one, of what an event has from, as the program asks it. -/
def onL (t : A5) (x f : List Int) : List Int := (List.range t.nodes.length).map fun (n : Nat) => Jx x f (n : Int)
theorem Pv {t : A5} {x f : List Int} : (onL t x f).length = t.nodes.length := by simp [onL]
theorem J4 {t : A5} {x f : List Int} {n : Nat} (h : n < t.nodes.length) : (onL t x f)[n]? = some (Jx x f (n : Int)) := by simp [onL, h]
def HY (t : A5) (x f : List Int) (n : Int) : Bool := if (t.at n.toNat).kind = 2 then Be x (Jx x f n) && HG t (Jx x f n) (t.at n.toNat).loc else decide (Jx x f n = -1)
theorem Wf (t : A5) (x f : List Int) : Cv t x f = (decide (x.length = f.length) && (List.range x.length).all (Bb t x) && (List.range x.length).all fun i => HY t x f (x.getD i 0)) := by
 unfold Cv
 by_cases h1 : (decide (x.length = f.length) && (List.range x.length).all (Bb t x)) = true
 ·rw [h1, Bool.true_and, Bool.true_and]
  simp only [Bool.and_eq_true, decide_eq_true_eq, Av, Bb] at h1
  have hnd : x.Nodup := KQ fun i hi => (h1.2 i hi).2
  have hat : ∀ i, i < x.length → Jx x f (x.getD i 0) = f.getD i 0 := by
   intro i hi
   unfold Jx
   rw [if_pos (Ai.2 (Ap hi)), Pf hnd hi, Int.toNat_natCast]
  rw [Bool.eq_iff_iff, Av, Av]
  constructor
  ·intro h i hi
   have := h i hi
   rw [Dw] at this
   rw [HY, hat i hi]; exact this
  ·intro h i hi
   have := h i hi
   rw [HY, hat i hi] at this
   rw [Dw]; exact this
 ·rw [Bool.not_eq_true] at h1
  rw [h1, Bool.false_and, Bool.false_and]
/-- Beneath one another: of one thread. -/
theorem YI {t : A5} (ht : Aj t) {a : Nat} (hla : t.locs.length ≤ a) : ∀ (n : Nat) (b : Nat), b < n → b < t.nodes.length → B7 t a b = true → (t.at a).thread = (t.at b).thread := by
 intro n
 induction n with
 | zero => intro b h; omega
 | succ n ih =>
  intro b hbn hb h
  unfold B7 at h
  rw [Kh ht.up a (by have := ht.up b hb; omega)] at h
  by_cases c1 : (t.at b).up < 0
  ·rw [if_pos c1] at h; cases h
  ·rw [if_neg c1] at h
   have hl : t.locs.length ≤ b := by
    rcases Nat.lt_or_ge b t.locs.length with h1 | h1
    ·have := (ht.init b h1).up; omega
    ·exact h1
   have hp := (ht.good b hl hb).par (by omega)
   by_cases c2 : (t.at b).up = a
   ·rw [c2, Int.toNat_natCast] at hp; exact hp
   ·rw [if_neg c2] at h
    have hub := ht.up b hb
    have hu : ((t.at b).up.toNat : Int) = (t.at b).up := by omega
    rw [← hp]
    exact ih (t.at b).up.toNat (by omega) (by omega) h
end Go.AM

namespace Go.AM
open Go Go.Proofs
theorem A5d {t : A5} {x : List Int} (hx : Cw t x) {w : Int} (hw : w ∈ x) {a : Nat} (h : (Mu t x w).getLsbD a = true) : a < t.nodes.length := by
 rw [Mu, AH, Bool.and_eq_true] at h
 have h1 := h.1
 simp only [A6q, Bool.or_eq_true, Bool.and_eq_true, decide_eq_true_eq, Ai] at h1
 have : (a : Int) ∈ x := by
  rcases h1 with h1 | h1
  ·rw [h1.1]; exact hw
  ·exact h1.1.1.1
 obtain ⟨m, e, hm⟩ := Aa (hx _ this)
 omega
theorem R0 {t : A5} (ht : Aj t) {x f : List Int} (hF : En t x f) {w : Int} (hw : w ∈ x) {a : Nat} (h : (AN t x f w).getLsbD a = true) : a < t.nodes.length := by
 obtain ⟨j, _, h2, h3⟩ := (HT _ _ _ _ _ _).1 h
 rcases LF ht hF hw j (fun k hk => h2 k (by omega)) with e | e
 ·have := h2 j (Nat.le_refl _)
  rw [e] at this; cases this
 ·exact A5d hF.node e h3
theorem A4y {t : A5} {x : List Int} (hx : Cw t x) {r : Int} (hr : r ∈ x) {b : Nat} (h : EF t x r b = true) : b < t.nodes.length := by
 simp only [EF, Bool.or_eq_true, Bool.and_eq_true, decide_eq_true_eq, Ai] at h
 have : (b : Int) ∈ x := by
  rcases h with h1 | h1
  ·rw [h1.1]; exact hr
  ·exact h1.1.1.1
 obtain ⟨m, e, hm⟩ := Aa (hx _ this)
 omega
theorem SO {n a : Nat} (ha : a < n) (p : Nat → Nat → Bool) (q : Nat → Bool) (hq : ∀ b, q b = true → b < n) : ((AB n p).map eW).set a [vW ((Bz fun b => decide (b < n) && p a b) ||| Bz q)] = (AB n fun i b => p i b || (decide (i = a) && q b)).map eW := by
 rw [← A6l ha p q hq, Jg ha, List.map_set]
theorem S8 {n a b : Nat} (ha : a < n) (hb : b < n) (hn : n ≤ 64) (p : Nat → Nat → Bool) : ((AB n p).map eW).set a [vW ((Bz fun b => decide (b < n) && p a b) ||| Cy b)] = (AB n fun i j => p i j || (decide (i = a) && decide (j = b))).map eW := by
 have : Cy (b : Int) = Bz fun j => decide (j = b) := by
  apply BV
  intro j hj
  rw [Cz, AH]
  by_cases c : j = b
  ·subst c; simp
  ·have : ¬ (j : Int) = (b : Int) := by omega
   simp [c, this]
 rw [this]
 exact SO ha p _ fun j hj => by rw [of_decide_eq_true hj]; exact hb
/-- Who is ordered by what the first so many saw. -/
def P5 (t : A5) (x f : List Int) (L : List Int) (a b : Nat) : Bool := L.any fun r => JL t x f r && BR (AN t x f (Jx x f r)) (a : Int) && EF t x r b
theorem A98 {t : A5} {x f L : List Int} (h : ∀ y, y ∈ L ↔ y ∈ x) (a b : Nat) : P5 t x f L a b = swB t x f a b := by
 unfold P5 swB
 rw [Bool.eq_iff_iff, List.any_eq_true, List.any_eq_true]
 exact ⟨fun ⟨y, h1, h2⟩ => ⟨y, (h y).1 h1, h2⟩, fun ⟨y, h1, h2⟩ => ⟨y, (h y).2 h1, h2⟩⟩
theorem Xl {t : A5} {x f L : List Int} {k : Nat} (hk : k < L.length) (a b : Nat) : P5 t x f (L.take (k + 1)) a b = (P5 t x f (L.take k) a b || (JL t x f (L.getD k 0) && BR (AN t x f (Jx x f (L.getD k 0))) (a : Int) && EF t x (L.getD k 0) b)) := by
 unfold P5
 rw [List.take_succ_eq_append_getElem hk, List.any_append, List.getD_eq_getElem?_getD, List.getElem?_eq_getElem hk]
 simp
/-- What is laid of what the first so many have from. -/
def Wa (t : A5) (x f : List Int) (k : Nat) : List Int := (List.range t.nodes.length).map fun (n : Nat) => Jx (x.take k) f (n : Int)
theorem A6X (t : A5) (x f : List Int) : Wa t x f 0 = List.replicate t.nodes.length (-1) := by
 apply List.ext_getElem
 ·simp [Wa]
 ·intro i h1 h2
  simp [Wa, Jx, Be]
theorem A8o (t : A5) (x f : List Int) : Wa t x f x.length = onL t x f := by unfold Wa onL; rw [List.take_length]
theorem A1U {t : A5} {x f : List Int} {k : Nat} : (Wa t x f k).length = t.nodes.length := by simp [Wa]
theorem A74 {l : List Int} {n : Int} (h : Be l n = true) (m : List Int) : LM (l ++ m) n = LM l n := by
 have h' : Be (l ++ m) n = true := Ai.2 (List.mem_append_left _ (Ai.1 h))
 obtain ⟨i, e1, i1, i2, i3⟩ := Ey h
 obtain ⟨j, e2, j1, j2, j3⟩ := Ey h'
 rw [e1, e2]
 have g : ∀ k, k < l.length → (l ++ m).getD k 0 = l.getD k 0 := fun k hk => by rw [List.getD_eq_getElem?_getD, List.getD_eq_getElem?_getD, List.getElem?_append_left hk]
 rcases Nat.lt_trichotomy i j with c | c | c
 ·exact absurd (by rw [g i i1]; exact i2) (j3 i c)
 ·rw [c]
 ·exact absurd (by rw [← g j (by omega)]; exact j2) (i3 j c)
theorem A8X {t : A5} {x f : List Int} {k m : Nat} (hk : k < x.length) (hm : x.getD k 0 = (m : Int)) (hmn : m < t.nodes.length) (hris : ∀ i, i ≤ k → CL x i = true) : ((Wa t x f k).map eI).set m [.i .i64 (f.getD k 0)] = (Wa t x f (k + 1)).map eI := by
 have hlt : ∀ i, i < k → x.getD i 0 < x.getD k 0 := by
  have : ∀ j, j ≤ k → ∀ i, i < j → x.getD i 0 < x.getD j 0 := by
   intro j
   induction j with
   | zero => intro _ i h; omega
   | succ j ih =>
    intro hj i hi
    have := hris (j + 1) hj
    simp only [CL, Bool.or_eq_true, decide_eq_true_eq, Nat.add_sub_cancel] at this
    have h2 : x.getD j 0 < x.getD (j + 1) 0 := this.resolve_left (by omega)
    rcases Nat.lt_or_ge i j with c | c
    ·have := ih (by omega) i c; omega
    ·rw [show i = j by omega]; exact h2
  exact this k (Nat.le_refl _)
 have hnot : Be (x.take k) (m : Int) = false := by
  rw [← Bool.not_eq_true, Ai]
  intro h
  obtain ⟨i, hi, e⟩ := List.getElem_of_mem h
  rw [List.length_take] at hi
  have := hlt i (by omega)
  rw [List.getElem_take] at e
  rw [List.getD_eq_getElem?_getD, List.getElem?_eq_getElem (by omega), Option.getD_some, e, hm] at this
  omega
 have htk : x.take (k + 1) = x.take k ++ [(m : Int)] := by
  rw [List.take_succ_eq_append_getElem hk]
  rw [List.getD_eq_getElem?_getD, List.getElem?_eq_getElem hk, Option.getD_some] at hm
  rw [hm]
 have e0 : ((Wa t x f k).map eI).set m [.i .i64 (f.getD k 0)] = ((Wa t x f k).set m (f.getD k 0)).map eI := by rw [List.map_set]
 rw [e0]
 congr 1
 apply List.ext_getElem
 ·simp [Wa]
 ·intro i h1 h2
  have hi : i < t.nodes.length := by simpa [Wa] using h2
  rw [List.getElem_set]
  by_cases c : m = i
  ·subst c
   rw [if_pos rfl]
   simp only [Wa, List.getElem_map, List.getElem_range]
   unfold Jx
   have h3 : Be (x.take (k + 1)) (m : Int) = true := by rw [htk, Ai]; simp
   rw [if_pos h3]
   obtain ⟨j, e, j1, j2, j3⟩ := Ey h3
   rw [e, Int.toNat_natCast]
   have : j = k := by
    rw [List.length_take] at j1
    rcases Nat.lt_trichotomy j k with c | c | c
    ·exfalso
     rw [htk, List.getD_eq_getElem?_getD, List.getElem?_append_left (by rw [List.length_take]; omega), ← List.getD_eq_getElem?_getD] at j2
     have : Be (x.take k) (m : Int) = true := by rw [Ai, ← j2]; exact Ap (by rw [List.length_take]; omega)
     rw [hnot] at this; cases this
    ·exact c
    ·omega
   rw [this]
  ·rw [if_neg c]
   simp only [Wa, List.getElem_map, List.getElem_range]
   unfold Jx
   have c' : ¬ (i : Int) = (m : Int) := by omega
   have e : Be (x.take (k + 1)) (i : Int) = Be (x.take k) (i : Int) := by
    rw [htk, Bool.eq_iff_iff, Ai, Ai, List.mem_append]
    simp [c']
   rw [e]
   by_cases c2 : Be (x.take k) (i : Int) = true
   ·rw [if_pos c2, if_pos c2, htk, A74 c2]
   ·rw [if_neg c2, if_neg c2]
def hbF (t : A5) (x f : List Int) : BY := if Cv t x f = true then Wt t x f else []
end Go.AM

namespace Go.AM
open Go Go.Proofs
/-- A way of one step or more. -/
inductive Na (p : Nat → Nat → Bool) (N : Nat) (a : Nat) : Nat → Prop where
 | one {b : Nat} (hb : b < N) (h : p a b = true) : Na p N a b
 | more {b c : Nat} (h1 : Na p N a b) (hc : c < N) (h : p b c = true) : Na p N a c
theorem Na.lt {p : Nat → Nat → Bool} {N a b : Nat} (h : Na p N a b) : b < N := by cases h <;> assumption
theorem Na.trans {p : Nat → Nat → Bool} {N a b c : Nat} (h : Na p N a b) (k : Na p N b c) : Na p N a c := by
 induction k with
 | one hb h2 => exact .more h hb h2
 | more _ hc h2 ih => exact .more ih hc h2
open Classical in
theorem Mv {n : Nat} (hn : n ≤ 64) (p : Nat → Nat → Bool) {a b : Nat} (ha : a < n) : ((Et (AB n p)).getD a 0#64).getLsbD b = true ↔ Na p n a b := by
 have hl : (AB n p).length ≤ 64 := by rw [BG]; exact hn
 have e : (Et (AB n p)).getD a 0#64 = EX (AB n p) ((AB n p).getD a 0#64) := by
  rw [Et, Kt hn, if_pos rfl, List.getD_eq_getElem?_getD]
  simp [BG, ha]
 rw [e]
 have hc := Rf hl ((AB n p).getD a 0#64)
 have row : ∀ i j, i < n → (((AB n p).getD i 0#64).getLsbD j = true ↔ j < n ∧ p i j = true) := fun i j hi => by
  rw [Jg hi, AH]
  simp only [Bool.and_eq_true, decide_eq_true_eq]
  exact ⟨fun h => h.1, fun h => ⟨h, by omega⟩⟩
 constructor
 ·intro h
  have := hc.least (Bz fun j => decide (Na p n a j)) (fun j hj => by
   obtain ⟨h1, h2⟩ := (row a j ha).1 hj
   rw [AH]
   simp only [Bool.and_eq_true, decide_eq_true_eq]
   exact ⟨.one h1 h2, by omega⟩) (fun y hy hs j hj => by
   rw [BG] at hy
   obtain ⟨h1, h2⟩ := (row y j hy).1 hj
   rw [AH] at hs ⊢
   simp only [Bool.and_eq_true, decide_eq_true_eq] at hs ⊢
   exact ⟨.more hs.1 h1 h2, by omega⟩) b h
  rw [AH] at this
  simp only [Bool.and_eq_true, decide_eq_true_eq] at this
  exact this.1
 ·intro h
  induction h with
  | one hb h => exact hc.sub _ ((row a _ ha).2 ⟨hb, h⟩)
  | more h1 hc' h2 ih => exact hc.closed _ (by rw [BG]; exact h1.lt) ih _ ((row _ _ h1.lt).2 ⟨hc', h2⟩)
theorem HA {n : Nat} (hn : n ≤ 64) (p : Nat → Nat → Bool) : (Et (AB n p)).length = n := by
 rw [Et, Kt hn, if_pos rfl]; simp [BG]
theorem A7W {n : Nat} (hn : n ≤ 64) (p : Nat → Nat → Bool) : Dn (Et (AB n p)) = true := by
 simp only [Dn, Bool.and_eq_true, decide_eq_true_eq, List.all_eq_true, HA hn]
 refine ⟨hn, fun r hr => ?_⟩
 obtain ⟨i, hi, rfl⟩ := List.getElem_of_mem hr
 rw [HA hn] at hi
 apply BV
 intro j hj
 rw [BitVec.getLsbD_and, BitVec.getLsbD_not, D2, AH]
 have e : (Et (AB n p))[i] = (Et (AB n p)).getD i 0#64 := by rw [List.getD_eq_getElem?_getD, List.getElem?_eq_getElem (by rw [HA hn]; exact hi)]; rfl
 rw [e]
 cases hb : ((Et (AB n p)).getD i 0#64).getLsbD j with
 | false => simp
 | true =>
  have := ((Mv hn p hi).1 hb).lt
  simp [this, hj]
theorem MZ {n : Nat} (hn : n ≤ 64) (p : Nat → Nat → Bool) (x : Int × Int) : x ∈ CM (Et (AB n p)) ↔ ∃ a b : Nat, a < n ∧ x = ((a : Int), (b : Int)) ∧ Na p n a b := by
 rw [CM, A7W hn, if_pos rfl, HA hn, List.mem_flatMap]
 constructor
 ·rintro ⟨a, ha, h⟩
  have ha' := List.mem_range.1 ha
  obtain ⟨j, hj, rfl⟩ := List.mem_map.1 h
  obtain ⟨h1, h2⟩ := Gf (Dg.1 hj)
  obtain ⟨b, rfl⟩ := Int.eq_ofNat_of_zero_le h1
  have h3 := Dg.1 hj
  rw [AT] at h3
  exact ⟨a, b, ha', rfl, (Mv hn p ha').1 h3⟩
 ·rintro ⟨a, b, ha, rfl, h⟩
  refine ⟨a, List.mem_range.2 ha, List.mem_map.2 ⟨b, Dg.2 ?_, rfl⟩⟩
  rw [AT]
  exact (Mv hn p ha).2 h
theorem JP.rmwLoc {t : A5} : ∀ {n u e : Nat}, JP t n u e → ∀ m, u < m → m < e → (t.at m).rmw = true → (t.at (t.at m).up.toNat).loc = (t.at m).loc := by
 intro n
 induction n with
 | zero => intro u e h; exact absurd h (by simp [JP])
 | succ n ih =>
  intro u e h m h1 h2 hr
  obtain ⟨⟨_, ht, _⟩, h⟩ := h
  rcases h with ⟨_, _, rfl⟩ | ⟨c, _, _, al, hb⟩ | ⟨c, _, _, vals, k, loc, mode, _, _, hk0, hke, hloc, hs, _⟩
  ·omega
  ·by_cases e1 : m = u + 1
   ·subst e1
    obtain ⟨p, q⟩ := Qf c
    rw [p, Int.toNat_natCast]
    simp only [Dy, hr, Bool.or_eq_true, Bool.and_eq_true, decide_eq_true_eq, if_true, Bool.not_true] at al
    rcases al with h | h
    ·have := h.1.1.2; cases this
    ·exact h.2.1.2
   ·exact ih hb m (by omega) h2 hr
  ·obtain ⟨v, hv, a, b⟩ := HJ (k := k) (m := m) vals (by omega) (by omega)
   obtain ⟨s1, s2, s3⟩ := hs v hv
   by_cases e1 : m = k v
   ·subst e1
    rw [EN, hr] at s2
    simp at s2
   ·exact ih s3 m (by omega) b hr
theorem Aj.rmwLoc {t : A5} (h : Aj t) {m : Nat} (h2 : m < t.nodes.length) (hr : (t.at m).rmw = true) : t.locs.length ≤ m ∧ (t.at (t.at m).up.toNat).loc = (t.at m).loc := by
 have h1 : t.locs.length ≤ m := by
  rcases Nat.lt_or_ge m t.locs.length with h1 | h1
  ·have := h.first.2 m h1
   simp only [Je, Bool.and_eq_true] at this
   have h3 := this.1.1.2
   rw [hr] at h3; cases h3
  ·exact h1
 refine ⟨h1, ?_⟩
 obtain ⟨s, h0, he, hs⟩ := h.thr
 obtain ⟨v, hv, a, b⟩ := HJ (k := s) (m := m) t.regs.length (by omega) (by omega)
 obtain ⟨hb, n, hn⟩ := hs v hv
 by_cases e1 : m = s v
 ·subst e1
  simp only [G7, Bool.and_eq_true, decide_eq_true_eq] at hb
  have := hb.2
  rw [hr] at this; cases this
 ·exact hn.rmwLoc m (by omega) b hr
theorem Acs {t : A5} (hu : Kc t) {a : Nat} : ∀ (n : Nat) (b : Nat), b < n → b < t.nodes.length → B7 t a b = true → a < b := by
 intro n
 induction n with
 | zero => intro b h; omega
 | succ n ih =>
  intro b hbn hb h
  unfold B7 at h
  have hub := hu b hb
  rw [Kh hu a (by omega)] at h
  by_cases c1 : (t.at b).up < 0
  ·rw [if_pos c1] at h; cases h
  ·rw [if_neg c1] at h
   by_cases c2 : (t.at b).up = a
   ·omega
   ·rw [if_neg c2] at h
    have := ih (t.at b).up.toNat (by omega) (by omega) h
    omega
theorem Sg {t : A5} (ht : Aj t) {a b : Nat} (h : Aw t a b = true) : a < b := by
 simp only [Aw, Bool.and_eq_true, Int.toNat_natCast] at h
 obtain ⟨⟨h1, h2⟩, h3⟩ := h
 simp only [C3, Bool.and_eq_true, decide_eq_true_eq] at h1 h2
 by_cases c : (t.at a).thread < 0
 ·rw [if_pos c, decide_eq_true_eq] at h3
  have k1 := (ht.thr_iff (m := a) (by omega)).1 c
  have k2 : ¬ b < t.locs.length := fun k => by have := (ht.thr_iff (m := b) (by omega)).2 k; omega
  omega
 ·rw [if_neg c] at h3
  exact Acs ht.up (b + 1) b (by omega) (by omega) h3
theorem A4I {t : A5} (ht : Aj t) {v : Nat} (hv : v < t.nodes.length) (hu : 0 ≤ (t.at v).up) : Aw t (t.at v).up v = true := by
 have hlt := ht.up v hv
 obtain ⟨u, hu'⟩ := Int.eq_ofNat_of_zero_le hu
 have hul : u < t.nodes.length := by omega
 have hl : t.locs.length ≤ v := by
  rcases Nat.lt_or_ge v t.locs.length with h1 | h1
  ·have := (ht.init v h1).up; omega
  ·exact h1
 have hg := ht.good v hl hv
 have hp := hg.par hu
 rw [hu', Int.toNat_natCast] at hp
 have hth := hg.thr
 rw [hu', Aw, Da hul, Da hv, Int.toNat_natCast, Int.toNat_natCast, if_neg (by omega)]
 simp only [Bool.true_and]
 unfold B7
 rw [Kh ht.up u (by omega), if_neg (by omega), if_pos hu']
end Go.AM

namespace Go.AM
open Go Go.Proofs
theorem Aar {s : Ac} (h : s.has.length = s.jf.length) (n : Int) : jfF s n = Jx s.has s.jf n := by
 unfold jfF Jx
 have h1 := BT s.has n
 cases c : Be s.has n with
 | false =>
  rw [c] at h1
  have := of_decide_eq_true h1
  simp [this]
 | true =>
  obtain ⟨k, e, hk, _, _⟩ := Ey c
  rw [e, if_neg (by omega)]; simp
/-- Where a node stands among its location's classes, as the program asks it. -/
def plN (t : A5) (s : Ac) (n : Int) : Int := GA s (t.at n.toNat).loc (if (t.at n.toNat).kind = 2 then jfF s n else n)
/-- The same as the document asks it. -/
def plR (t : A5) (s : Ac) (n : Int) : Int := if (t.at n.toNat).kind = 3 then GA s (t.at n.toNat).loc n else if (t.at n.toNat).kind = 2 then GA s (t.at n.toNat).loc (jfF s n) else 0
theorem A3b (t : A5) (s : Ac) (a b : Int) : E4 (t.at a.toNat) (t.at b.toNat) (plR t s a) (plR t s b) = E4 (t.at a.toNat) (t.at b.toNat) (plN t s a) (plN t s b) := by
 unfold E4
 by_cases ca : (t.at a.toNat).kind = 2 ∨ (t.at a.toNat).kind = 3
 ·by_cases cb : (t.at b.toNat).kind = 2 ∨ (t.at b.toNat).kind = 3
  ·have e : ∀ n : Int, ((t.at n.toNat).kind = 2 ∨ (t.at n.toNat).kind = 3) → plR t s n = plN t s n := by
    intro n h
    unfold plR plN
    rcases h with h | h
    ·simp [h]
    ·simp [h]
   rw [e a ca, e b cb]
  ·have h1 : (t.at b.toNat).kind ≠ 2 := fun h => cb (.inl h)
   have h2 : (t.at b.toNat).kind ≠ 3 := fun h => cb (.inr h)
   simp [h1, h2]
 ·have h1 : (t.at a.toNat).kind ≠ 2 := fun h => ca (.inl h)
  have h2 : (t.at a.toNat).kind ≠ 3 := fun h => ca (.inr h)
  simp [h1, h2]
def TB (t : A5) (x f : List Int) (a b : Int) : Bool := BR ((Wt t x f).getD a.toNat 0#64) b
def N0 (t : A5) (s : Ac) (a b : Int) : Bool := E4 (t.at a.toNat) (t.at b.toNat) (plN t s a) (plN t s b)
/-- As the program asks it. -/
def A7r (t : A5) (s : Ac) : Bool := BM t s && (CM (Wt t s.has s.jf)).all fun x => N0 t s x.1 x.2
/-- As the document asks it. -/
def Yc (t : A5) (s : Ac) : Bool := (List.range s.has.length).all fun i => (List.range s.has.length).all fun k => decide (i = k) || !TB t s.has s.jf (s.has.getD i 0) (s.has.getD k 0) || E4 (t.at (s.has.getD i 0).toNat) (t.at (s.has.getD k 0).toNat) (plR t s (s.has.getD i 0)) (plR t s (s.has.getD k 0))
theorem MW {t : A5} {s : Ac} (h : BM t s = true) : Cv t s.has s.jf = true := by
 simp only [BM, Bool.and_eq_true, decide_eq_true_eq] at h
 obtain ⟨⟨⟨⟨⟨h1, h2⟩, h3⟩, h4⟩, h5⟩, h6⟩ := h
 simp only [C8, Bool.and_eq_true] at h1
 rw [Cv, decide_eq_true h2.symm]
 simp only [Bool.true_and, Bool.and_eq_true, Av]
 constructor
 ·intro i hi
  have := Av.1 h1.1 i hi
  simp only [Ca, Bool.and_eq_true] at this
  rw [Bb, this.1.1, this.1.2]; rfl
 ·intro i hi
  have := Av.1 h4 i hi
  rw [GU] at this
  rw [Dw]
  split
  ·rename_i c
   rw [if_pos c] at this
   simp only [Bool.and_eq_true] at this ⊢
   exact ⟨this.1.1, this.1.2⟩
  ·rename_i c
   rw [if_neg c] at this
   exact this
theorem AfQ {t : A5} {x f : List Int} (hF : En t x f) {a b : Nat} (h : Ns t x f a b = true) : (a : Int) ∈ x ∧ (b : Int) ∈ x ∨ (∃ r, r ∈ x ∧ JL t x f r = true ∧ BR (AN t x f (Jx x f r)) (a : Int) = true ∧ EF t x r b = true) := by
 simp only [Ns, Bool.or_eq_true, Bool.and_eq_true, Ai] at h
 rcases h with h | h
 ·exact .inl h.1
 ·rw [swB, List.any_eq_true] at h
  obtain ⟨r, hr, h⟩ := h
  simp only [Bool.and_eq_true] at h
  exact .inr ⟨r, hr, h.1.1, h.1.2, h.2⟩
theorem A6I {t : A5} {x : List Int} {r : Int} (hr : r ∈ x) {b : Nat} (h : EF t x r b = true) : (b : Int) ∈ x ∧ ((b : Int) = r ∨ (t.at b).kind = 4 ∧ Aw t r b = true) := by
 simp only [EF, Bool.or_eq_true, Bool.and_eq_true, decide_eq_true_eq, Ai] at h
 rcases h with h | h
 ·exact ⟨by rw [h.1]; exact hr, .inl h.1⟩
 ·exact ⟨h.1.1.1, .inr ⟨h.1.1.2, h.2⟩⟩
/-- Who brings a head: a write of the way, or a fence ahead of it. -/
theorem A1F {t : A5} (ht : Aj t) {x f : List Int} (hF : En t x f) {w : Int} (hw : w ∈ x) {a : Nat} (h : BR (AN t x f w) (a : Int) = true) :
  ∃ j, (∀ i, i ≤ j → Hy t x f i w ∈ x) ∧ (a : Int) ∈ x ∧ ((a : Int) = Hy t x f j w ∨ (t.at a).kind = 4 ∧ Aw t a (Hy t x f j w) = true) := by
 rw [AT] at h
 obtain ⟨j, _, h2, h3⟩ := (HT _ _ _ _ _ _).1 h
 have hin : ∀ i, i ≤ j → Hy t x f i w ∈ x := fun i hi => by
  rcases LF ht hF hw i (fun k hk => h2 k (by omega)) with e | e
  ·have := h2 i hi
   rw [e] at this; cases this
  ·exact e
 rw [Mu, AH, Bool.and_eq_true] at h3
 have h4 := h3.1
 simp only [A6q, Bool.or_eq_true, Bool.and_eq_true, decide_eq_true_eq, Ai] at h4
 refine ⟨j, hin, ?_⟩
 rcases h4 with h4 | h4
 ·exact ⟨by rw [h4.1]; exact hin j (Nat.le_refl _), .inl h4.1⟩
 ·exact ⟨h4.1.1.1, .inr ⟨h4.1.1.2, h4.2⟩⟩
theorem A5E {t : A5} (ht : Aj t) {x f : List Int} (hF : En t x f) {a b : Nat} (h : Na (Ns t x f) t.nodes.length a b) : (a : Int) ∈ x ∧ (b : Int) ∈ x := by
 have edge : ∀ {a b : Nat}, Ns t x f a b = true → (a : Int) ∈ x ∧ (b : Int) ∈ x := by
  intro a b h
  rcases AfQ hF h with h | ⟨r, hr, hs, hh, he⟩
  ·exact h
  ·have hk : (t.at r.toNat).kind = 2 := by simp only [JL, Bool.and_eq_true, decide_eq_true_eq] at hs; exact hs.1
   obtain ⟨o1, _, _⟩ := hF.read r hr hk
   obtain ⟨_, _, h1, _⟩ := A1F ht hF o1 hh
   exact ⟨h1, (A6I hr he).1⟩
 induction h with
 | one hb h => exact edge h
 | more h1 hc h2 ih => exact ⟨ih.1, (edge h2).2⟩
theorem AaB {t : A5} {s : Ac} {q v : Nat} (h : N0 t s q v = true) (hq : (t.at q).kind = 2) (hv : (t.at v).kind = 3) {loc : Int} (h1 : (t.at q).loc = loc) (h2 : (t.at v).loc = loc) : GA s loc (jfF s q) < GA s loc v := by
 simp only [N0, E4, plN, Int.toNat_natCast, hq, hv, h1, h2] at h
 simpa using h
/-- A write of the way stands no later than its first one, where pairs are right. -/
theorem A4i {t : A5} (ht : Aj t) {s : Ac} (hlen : s.has.length = s.jf.length) (hF : En t s.has s.jf) (good : ∀ a b : Nat, a ≠ b → Na (Ns t s.has s.jf) t.nodes.length a b → N0 t s a b = true) {w : Int} (hw : w ∈ s.has) (hk : (t.at w.toNat).kind = 3) :
  ∀ j, (∀ i, i ≤ j → Hy t s.has s.jf i w ∈ s.has) → (t.at (Hy t s.has s.jf j w).toNat).kind = 3 ∧ (t.at (Hy t s.has s.jf j w).toNat).loc = (t.at w.toNat).loc ∧ GA s (t.at w.toNat).loc (Hy t s.has s.jf j w) ≤ GA s (t.at w.toNat).loc w := by
 intro j
 induction j with
 | zero => intro _; exact ⟨hk, rfl, Int.le_refl _⟩
 | succ j ih =>
  intro hin
  obtain ⟨k1, k2, k3⟩ := ih fun i hi => hin i (by omega)
  have hv := hin j (by omega)
  have hv' := hin (j + 1) (Nat.le_refl _)
  rw [Hy] at hv'
  obtain ⟨v, hv1, hvn⟩ := Aa (hF.node _ hv)
  rw [Hy]
  rw [hv1] at hv hv' k1 k2 k3 ⊢
  rw [Int.toNat_natCast] at k1 k2
  by_cases c : (t.at v).rmw = true ∧ Be s.has (t.at v).up = true
  ·have hah : Yp t s.has s.jf v = Jx s.has s.jf (t.at v).up := by rw [Yp, Int.toNat_natCast, if_pos c]
   obtain ⟨hl, hloc⟩ := ht.rmwLoc hvn c.1
   obtain ⟨hup0, hupk⟩ := (ht.good v hl hvn).rmw c.1
   have hupx := Ai.1 c.2
   obtain ⟨o1, o2, o3⟩ := hF.read _ hupx hupk
   rw [hah]
   refine ⟨o2, by rw [o3, hloc, k2], ?_⟩
   obtain ⟨u, hu1⟩ := Int.eq_ofNat_of_zero_le hup0
   have hlt := ht.up v hvn
   have hb := A4I ht hvn hup0
   rw [hu1] at hb hupx hloc hupk
   rw [Int.toNat_natCast] at hloc hupk
   have hp : Na (Ns t s.has s.jf) t.nodes.length u v := .one hvn (by rw [Ns, Ai.2 hupx, Ai.2 hv, hb]; rfl)
   have hok := good u v (by omega) hp
   have hok := AaB hok hupk k1 (hloc.trans k2) k2
   rw [hu1]
   rw [Aar hlen] at hok
   omega
  ·have hah : Yp t s.has s.jf v = -1 := by rw [Yp, Int.toNat_natCast, if_neg c]
   rw [hah] at hv'
   obtain ⟨m, e, _⟩ := Aa (hF.node _ hv')
   omega
/-- Nothing comes ahead of itself, where pairs are right. -/
theorem Aa7 {t : A5} (ht : Aj t) {s : Ac} (hlen : s.has.length = s.jf.length) (hF : En t s.has s.jf) (good : ∀ a b : Nat, a ≠ b → Na (Ns t s.has s.jf) t.nodes.length a b → N0 t s a b = true) (w : Nat) : ¬ Na (Ns t s.has s.jf) t.nodes.length w w := by
 intro hww
 have key : ∀ b, Na (Ns t s.has s.jf) t.nodes.length w b → w < b ∨ ∃ (h e : Nat) (r : Int), r ∈ s.has ∧ JL t s.has s.jf r = true ∧ BR (AN t s.has s.jf (Jx s.has s.jf r)) (h : Int) = true ∧ EF t s.has r e = true ∧ (h = w ∨ Na (Ns t s.has s.jf) t.nodes.length w h) ∧ (e = b ∨ Na (Ns t s.has s.jf) t.nodes.length e b) := by
  intro b hb
  have split : ∀ {a b : Nat}, Ns t s.has s.jf a b = true → Aw t a b = true ∨ ∃ r, r ∈ s.has ∧ JL t s.has s.jf r = true ∧ BR (AN t s.has s.jf (Jx s.has s.jf r)) (a : Int) = true ∧ EF t s.has r b = true := by
   intro a b h
   simp only [Ns, Bool.or_eq_true, Bool.and_eq_true, Ai] at h
   rcases h with h | h
   ·exact .inl h.2
   ·rw [swB, List.any_eq_true] at h
    obtain ⟨r, hr, h⟩ := h
    simp only [Bool.and_eq_true] at h
    exact .inr ⟨r, hr, h.1.1, h.1.2, h.2⟩
  induction hb with
  | one hb h =>
   rename_i b
   rcases split h with h | ⟨r, h1, h2, h3, h4⟩
   ·exact .inl (Sg ht h)
   ·exact .inr ⟨w, b, r, h1, h2, h3, h4, .inl rfl, .inl rfl⟩
  | more hp hc h ih =>
   rename_i b c
   rcases ih with hlt | ⟨h', e, r, h1, h2, h3, h4, h5, h6⟩
   ·rcases split h with h | ⟨r, h1, h2, h3, h4⟩
    ·have := Sg ht h
     exact .inl (by omega)
    ·exact .inr ⟨b, c, r, h1, h2, h3, h4, .inr hp, .inl rfl⟩
   ·refine .inr ⟨h', e, r, h1, h2, h3, h4, h5, .inr ?_⟩
    rcases h6 with rfl | h6
    ·exact .one hc h
    ·exact .more h6 hc h
 rcases key w hww with h | ⟨h, e, r, h1, h2, h3, h4, h5, h6⟩
 ·omega
 ·have heh : e = h ∨ Na (Ns t s.has s.jf) t.nodes.length e h := by
   rcases h6 with rfl | h6
   ·rcases h5 with rfl | h5
    ·exact .inl rfl
    ·exact .inr h5
   ·rcases h5 with rfl | h5
    ·exact .inr h6
    ·exact .inr (h6.trans h5)
  have hk : (t.at r.toNat).kind = 2 := by simp only [JL, Bool.and_eq_true, decide_eq_true_eq] at h2; exact h2.1
  obtain ⟨o1, o2, o3⟩ := hF.read r h1 hk
  obtain ⟨j, hin, hhx, hhead⟩ := A1F ht hF o1 h3
  obtain ⟨hex, hend⟩ := A6I h1 h4
  obtain ⟨w1, w2, w3⟩ := A4i ht hlen hF good o1 o2 j hin
  obtain ⟨v, hv1, hvn⟩ := Aa (hF.node _ (hin j (Nat.le_refl _)))
  have hvx := hin j (Nat.le_refl _)
  obtain ⟨q, hq1, hqn⟩ := Aa (hF.node _ h1)
  rw [hv1] at hvx hhead w1 w2 w3
  rw [hq1] at h1 hk hend o1 o2 o3 w2 w3
  rw [Int.toNat_natCast] at hk w1 w2 o3
  have hne : q ≠ v := by intro e; rw [e] at hk; omega
  -- from the read to the write of the way
  have hev : e = v ∨ Na (Ns t s.has s.jf) t.nodes.length e v := by
   have hhv : h = v ∨ Na (Ns t s.has s.jf) t.nodes.length h v := by
    rcases hhead with hh | hh
    ·exact .inl (by omega)
    ·exact .inr (.one hvn (by rw [Ns, Ai.2 hhx, Ai.2 hvx, hh.2]; rfl))
   rcases heh with rfl | h7
   ·exact hhv
   ·rcases hhv with rfl | h8
    ·exact .inr h7
    ·exact .inr (h7.trans h8)
  have hqv : Na (Ns t s.has s.jf) t.nodes.length q v := by
   rcases hend with he | he
   ·have : e = q := by omega
    subst this
    rcases hev with rfl | h8
    ·exact absurd rfl hne
    ·exact h8
   ·obtain ⟨e', he1, hen⟩ := Aa (hF.node _ hex)
    have : e' = e := by omega
    subst this
    have hqe : Na (Ns t s.has s.jf) t.nodes.length q e' := .one hen (by rw [Ns, Ai.2 h1, Ai.2 hex, he.2]; rfl)
    rcases hev with rfl | h8
    ·exact hqe
    ·exact hqe.trans h8
  have hok := good q v hne hqv
  rw [o3] at w2 w3
  have hok := AaB hok hk w1 rfl w2
  rw [Aar hlen] at hok
  omega
/-- The document and the program answer the same. -/
theorem AcA (t : A5) (ht : Aj t) (s : Ac) : A7r t s = (BM t s && Yc t s) := by
 unfold A7r
 cases hf : BM t s with
 | false => rfl
 | true =>
 simp only [Bool.true_and]
 have hfr := MW hf
 have hF := GG hfr
 have h64 := ht.n64
 have hlen := hF.len
 have hbat : ∀ a b : Nat, a < t.nodes.length → (TB t s.has s.jf a b = true ↔ Na (Ns t s.has s.jf) t.nodes.length a b) := fun a b ha => by
  rw [TB, AT, Int.toNat_natCast, Wt]
  exact Mv h64 _ ha
 have good_iff : Yc t s = true ↔ ∀ a b : Nat, a ≠ b → Na (Ns t s.has s.jf) t.nodes.length a b → N0 t s a b = true := by
  unfold Yc
  constructor
  ·intro h a b hab hp
   obtain ⟨ha, hb⟩ := A5E ht hF hp
   obtain ⟨i, hi, hi'⟩ := List.getElem_of_mem ha
   obtain ⟨k, hk, hk'⟩ := List.getElem_of_mem hb
   have := Av.1 (Av.1 h i hi) k hk
   have ei : s.has.getD i 0 = (a : Int) := by rw [List.getD_eq_getElem?_getD, List.getElem?_eq_getElem hi, hi']; rfl
   have ek : s.has.getD k 0 = (b : Int) := by rw [List.getD_eq_getElem?_getD, List.getElem?_eq_getElem hk, hk']; rfl
   rw [ei, ek, A3b] at this
   simp only [Bool.or_eq_true, decide_eq_true_eq, Bool.not_eq_true'] at this
   obtain ⟨a', e, ha'⟩ := Aa (hF.node _ ha)
   have hbt := (hbat a b (by omega)).2 hp
   rcases this with (h | h) | h
   ·subst h
    rw [ei] at ek
    omega
   ·rw [hbt] at h; cases h
   ·exact h
  ·intro h
   rw [Av]
   intro i hi
   rw [Av]
   intro k hk
   rw [A3b]
   simp only [Bool.or_eq_true, decide_eq_true_eq, Bool.not_eq_true']
   by_cases e : i = k
   ·exact .inl (.inl e)
   ·obtain ⟨a, ha1, ha⟩ := Aa (hF.node _ (Ap (d := 0) hi))
    obtain ⟨b, hb1, hb⟩ := Aa (hF.node _ (Ap (d := 0) hk))
    rw [ha1, hb1]
    cases hh : TB t s.has s.jf a b with
    | false => exact .inl (.inr rfl)
    | true =>
     refine .inr (h a b ?_ ((hbat a b ha).1 hh))
     intro eab
     have h1 := Pf hF.nd hi
     have h2 := Pf hF.nd hk
     rw [ha1, eab, ← hb1, h2] at h1
     omega
 rw [Bool.eq_iff_iff, good_iff, List.all_eq_true]
 constructor
 ·intro h a b hab hp
  obtain ⟨ha, hb⟩ := A5E ht hF hp
  obtain ⟨a', e, ha'⟩ := Aa (hF.node _ ha)
  have := h ((a : Int), (b : Int)) ((MZ h64 _ _).2 ⟨a, b, by omega, rfl, hp⟩)
  exact this
 ·intro h x hx
  obtain ⟨a, b, ha, rfl, hp⟩ := (MZ h64 _ _).1 hx
  by_cases e : a = b
  ·subst e
   exact absurd hp (Aa7 ht hlen hF h a)
  ·exact h a b e hp
end Go.AM

namespace Go.AM
open Go Go.Proofs
def EC (t : A5) (k : Nat) : List Int := ((List.range k).filter fun i => decide ((t.at i).up < 0)).map fun (i : Nat) => (i : Int)
def Kq (t : A5) : Ac := ⟨EC t t.nodes.length, List.replicate (EC t t.nodes.length).length (-1), (List.range t.locs.length).map fun (i : Nat) => [[(i : Int)]]⟩
theorem A27 {t : A5} {k : Nat} (h : decide ((t.at k).up < 0) = true) : EC t (k + 1) = EC t k ++ [(k : Int)] := by
 unfold EC
 rw [List.range_succ, List.filter_append, List.map_append]
 simp only [List.filter_cons, List.filter_nil, h, if_true, List.map_cons, List.map_nil]
theorem A3u {t : A5} {k : Nat} (h : decide ((t.at k).up < 0) = false) : EC t (k + 1) = EC t k := by
 unfold EC
 rw [List.range_succ, List.filter_append, List.map_append]
 simp [h]
theorem MX {t : A5} (k : Nat) : (EC t k).length ≤ k := by
 unfold EC
 rw [List.length_map]
 exact Nat.le_trans (List.length_filter_le _ _) (by simp)
def BO (l : List Int) (n : Int) : Nat := (l.takeWhile fun x => decide (x < n)).length
def Ck (l : List Int) (k : Nat) (x : Int) : List Int := l.take k ++ x :: l.drop k
theorem G3 (l : List Int) (n : Int) : BO l n ≤ l.length := (List.takeWhile_sublist _).length_le
theorem Ma {l : List Int} {n : Int} : ∀ {k : Nat}, k < BO l n → l.getD k 0 < n := by
 induction l with
 | nil => intro k h; simp [BO] at h
 | cons x l ih =>
  intro k h
  unfold BO at h
  rw [List.takeWhile_cons] at h
  by_cases c : x < n
  ·simp only [c, decide_true, if_true, List.length_cons] at h
   cases k with
   | zero => simpa using c
   | succ k =>
    have := ih (k := k) (by unfold BO; omega)
    simpa using this
  ·simp [c] at h
theorem A8K {l : List Int} {n : Int} (h : BO l n < l.length) : ¬ l.getD (BO l n) 0 < n := by
 induction l with
 | nil => simp at h
 | cons x l ih =>
  unfold BO at h ⊢
  rw [List.takeWhile_cons] at h ⊢
  by_cases c : x < n
  ·simp only [c, decide_true, if_true, List.length_cons] at h ⊢
   have := ih (by unfold BO; omega)
   unfold BO at this
   simpa using this
  ·simp [c]
theorem Gh {l : List Int} {k : Nat} (h : k ≤ l.length) (x : Int) : (Ck l k x).length = l.length + 1 := by
 simp [Ck]; omega
def Cd (t : A5) (s : Ac) (n kind : Int) : Bool := BM t s && C3 t n && decide ((t.at n.toNat).kind = kind) && !Be s.has n && Be s.has (t.at n.toNat).up
def Bf (s : Ac) (n w : Int) : Ac := ⟨Ck s.has (BO s.has n) n, Ck s.jf (BO s.has n) w, s.mo⟩
/-- So big after so many steps; no location without a class. -/
structure Big (t : A5) (s : Ac) (k : Nat) : Prop where
 has : s.has.length ≤ 64 + k
 jf : s.jf.length ≤ 64 + k
 mo : s.mo.length = t.locs.length
 mi : ∀ l ∈ s.mo, l ≠ [] ∧ l.length ≤ 1 + k
 mc : ∀ l ∈ s.mo, ∀ c ∈ l, c.length ≤ 1 + k
theorem Big.sz {t : A5} (ht : Aj t) {s : Ac} {k : Nat} (h : Big t s k) (hk : k ≤ 100) : Ja s :=
 ⟨by have := h.has; omega, by have := h.jf; omega, by have := h.mo; have := ht.l4; omega, fun l hl => by have := (h.mi l hl).2; omega, fun l hl c hc => by have := h.mc l hl c hc; omega⟩
theorem Big.mono {t : A5} {s : Ac} {k j : Nat} (h : Big t s k) (hk : k ≤ j) : Big t s j :=
 ⟨by have := h.has; omega, by have := h.jf; omega, h.mo, fun l hl => ⟨(h.mi l hl).1, by have := (h.mi l hl).2; omega⟩, fun l hl c hc => by have := h.mc l hl c hc; omega⟩
theorem A3J {t : A5} (ht : Aj t) : Big t (Kq t) 0 := by
 have h := MX (t := t) t.nodes.length
 have h64 := ht.n64
 refine ⟨by show (EC t t.nodes.length).length ≤ 64; omega, by show (List.replicate _ _).length ≤ 64; rw [List.length_replicate]; omega, by simp [Kq], ?_, ?_⟩
 ·intro l hl
  simp only [Kq, List.mem_map] at hl
  obtain ⟨i, _, rfl⟩ := hl
  simp
 ·intro l hl c hc
  simp only [Kq, List.mem_map] at hl
  obtain ⟨i, _, rfl⟩ := hl
  simp at hc
  subst hc
  simp
theorem A5G {t : A5} {s : Ac} {k : Nat} (h : Big t s k) (hj : s.jf.length = s.has.length) (n w : Int) : Big t (Bf s n w) (k + 1) := by
 have h1 := G3 s.has n
 refine ⟨?_, ?_, h.mo, fun l hl => ⟨(h.mi l hl).1, by have := (h.mi l hl).2; omega⟩, fun l hl c hc => by have := h.mc l hl c hc; omega⟩
 ·show (Ck s.has (BO s.has n) n).length ≤ _
  rw [Gh h1]; have := h.has; omega
 ·show (Ck s.jf (BO s.has n) w).length ≤ _
  rw [Gh (by omega)]; have := h.jf; omega
end Go.AM
