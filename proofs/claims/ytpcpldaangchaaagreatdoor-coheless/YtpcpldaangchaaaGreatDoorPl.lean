/-
  Own work, part of the proof of CoheLess: plain models of what functions compute.
-/
import Derived.Test.YtpcpldaangchaaaGreatDoorAmE
set_option maxRecDepth 4000
set_option linter.unusedVariables false
set_option linter.unusedSimpArgs false
set_option linter.unusedSectionVars false
set_option linter.unnecessarySimpa false
namespace Go.AM
open Go Go.Proofs
def D6 (xs : List Int) : BitVec 64 := xs.foldl (fun s i => s ||| CX i) 0#64
/-- The set of the numbers from lo on and below hi. -/
def Ek (lo hi : Int) : BitVec 64 := Bw fun i => decide (lo ≤ (i : Int) ∧ (i : Int) < hi)
def AK (s : BitVec 64) : List Int := (BO s).map fun (i : Nat) => (i : Int)
/-- The first of a list that is so; -1: none. -/
def CL {α : Type} (p : α → Bool) (xs : List α) : Int := match xs.findIdx? p with
 | some i => i
 | none => -1
theorem DY {α : Type} {p : α → Bool} {xs : List α} {k : Nat} (hk : k < xs.length) (h1 : p xs[k] = true) (h2 : ∀ (j : Nat) (hj : j < k), p xs[j] = false) : CL p xs = k := by
 unfold CL
 rw [List.findIdx?_eq_some_iff_getElem.2 ⟨hk, h1, fun j hj => by simp [h2 j hj]⟩]
theorem Ds {α : Type} {p : α → Bool} {xs : List α} (h : ∀ x ∈ xs, p x = false) : CL p xs = -1 := by
 unfold CL
 rw [List.findIdx?_eq_none_iff.2 h]
theorem K9 {α : Type} (p : α → Bool) (xs : List α) : decide (0 ≤ CL p xs) = xs.any p := by
 unfold CL
 cases h : xs.findIdx? p with
 | none => rw [List.findIdx?_eq_none_iff] at h; simp; exact h
 | some i =>
  obtain ⟨hi, h1, _⟩ := List.findIdx?_eq_some_iff_getElem.1 h
  simp
  exact ⟨_, List.getElem_mem hi, h1⟩
abbrev Rows := List (BitVec 64)
def DJ (r : Rows) : Bool := decide (r.length ≤ 64) && r.all fun x => decide (x &&& ~~~(Ek 0 r.length) = 0#64)
/-- Those that some one of a set is before. -/
def DK (a : Rows) (s : BitVec 64) : BitVec 64 := (BO (s &&& Ek 0 a.length)).foldl (fun x i => x ||| a.getD i 0#64) 0#64
def Jd (a : Rows) : Nat → BitVec 64 → BitVec 64
 | 0, s => s
 | n + 1, s => if s ||| DK a s = s then s else Jd a n (s ||| DK a s)
theorem Ld {s x : BitVec 64} (h : s ||| x ≠ s) : s.toNat < (s ||| x).toNat := by
 have h1 : s.toNat ≤ (s ||| x).toNat := by rw [BitVec.toNat_or]; exact Nat.left_le_or
 rcases Nat.lt_or_ge s.toNat (s ||| x).toNat with h2 | h2
 ·exact h2
 ·exact absurd (BitVec.eq_of_toNat_eq (by omega)) h
theorem ZM (a : Rows) : ∀ (n : Nat) (s : BitVec 64), 18446744073709551616 - s.toNat ≤ n → Jd a (n + 1) s = Jd a n s := by
 intro n
 induction n with
 | zero => intro s h; have := s.isLt; omega
 | succ n ih =>
  intro s h
  rw [Jd]
  by_cases e : s ||| DK a s = s
  ·rw [if_pos e]; rw [Jd, if_pos e]
  ·rw [if_neg e]
   have := Ld e
   rw [ih _ (by omega), Jd, if_neg e]
/-- What comes of a set, step by step. -/
def Jl (a : Rows) (s : BitVec 64) : BitVec 64 := Jd a 18446744073709551616 s
theorem Yv (a : Rows) (s : BitVec 64) : Jl a s = if s ||| DK a s = s then s else Jl a (s ||| DK a s) := by
 have h0 : Jl a s = Jd a (18446744073709551615 + 1) s := rfl
 rw [h0, Jd]
 by_cases e : s ||| DK a s = s
 ·rw [if_pos e, if_pos e]
 ·rw [if_neg e, if_neg e]
  have := Ld e
  exact (ZM a 18446744073709551615 _ (by omega)).symm
def Gq (a : Rows) : Rows := if DJ a then (List.range a.length).map (fun i => Jl a (a.getD i 0#64)) else []
def WJ (a : Rows) (s : BitVec 64) : Rows := if DJ a then (List.range a.length).map (fun (i : Nat) => if Ck s (i : Int) then a.getD i 0#64 &&& s else 0#64) else []
theorem A8D {a : Rows} {i : Nat} (h : i < a.length) : a.getD i 0#64 = a[i] := by
 simp only [List.getD_eq_getElem?_getD, List.getElem?_eq_getElem h, Option.getD_some]
theorem LM {a : Rows} (h : DJ a = true) : a.length ≤ 64 := by simp only [DJ, Bool.and_eq_true, decide_eq_true_eq] at h; exact h.1
def Ce (a : Rows) : List (Int × Int) := if DJ a then (List.range a.length).flatMap (fun i => (AK (a.getD i 0#64)).map fun j => ((i : Int), j)) else []
theorem Du (s : BitVec 64) : (AK s).length ≤ 64 := by
 simp only [AK, List.length_map]
 unfold BO
 exact Nat.le_trans (List.length_filter_le _ _) (by simp)
theorem RO (a : Rows) : ∀ k, ((List.range k).flatMap (fun i => (AK (a.getD i 0#64)).map fun j => ((i : Int), j))).length ≤ 64 * k := by
 intro k
 induction k with
 | zero => simp
 | succ k ih =>
  rw [List.range_succ, List.flatMap_append, List.length_append]
  have := Du (a.getD k 0#64)
  simp only [List.flatMap_cons, List.flatMap_nil, List.append_nil, List.length_map]
  omega
def Sub (s t : BitVec 64) : Prop := ∀ j, s.getLsbD j = true → t.getLsbD j = true
def A0L (a : Rows) (t : BitVec 64) : Prop := ∀ y, y < a.length → t.getLsbD y = true → Sub (a.getD y 0#64) t
structure PB (a : Rows) (s t : BitVec 64) : Prop where
 sub : Sub s t
 closed : A0L a t
 least : ∀ u, Sub s u → A0L a u → Sub t u
theorem Sub.anti {s t : BitVec 64} (h : Sub s t) (k : Sub t s) : s = t := by
 apply BZ
 intro j _
 cases hs : s.getLsbD j with
 | true => exact (h j hs).symm
 | false =>
  cases ht : t.getLsbD j with
  | false => rfl
  | true => rw [k j ht] at hs; cases hs
theorem PB.uniq {a : Rows} {s t u : BitVec 64} (h : PB a s t) (k : PB a s u) : t = u := Sub.anti (h.least u k.sub k.closed) (k.least t h.sub h.closed)
theorem Tg {α : Type} (f : α → BitVec 64) (j : Nat) : ∀ (l : List α) (x : BitVec 64), (l.foldl (fun x i => x ||| f i) x).getLsbD j = (x.getLsbD j || l.any fun i => (f i).getLsbD j)
 | [], x => by simp
 | i :: l, x => by rw [List.foldl_cons, Tg f j l, BitVec.getLsbD_or, List.any_cons, Bool.or_assoc]
theorem R8 {a : Rows} (hl : a.length ≤ 64) (s : BitVec 64) (j : Nat) : (DK a s).getLsbD j = true ↔ ∃ i, i < a.length ∧ s.getLsbD i = true ∧ (a.getD i 0#64).getLsbD j = true := by
 unfold DK
 rw [Tg]
 simp only [BitVec.getLsbD_zero, Bool.false_or, List.any_eq_true, JT, BitVec.getLsbD_and, Bool.and_eq_true, Ek, AF, decide_eq_true_eq]
 constructor
 ·rintro ⟨i, ⟨h1, h2, h3⟩, h4⟩
  exact ⟨i, by omega, h1, h4⟩
 ·rintro ⟨i, h1, h2, h3⟩
  exact ⟨i, ⟨h2, by omega, by omega⟩, h3⟩
theorem A3c {a : Rows} (hl : a.length ≤ 64) : ∀ (n : Nat) (s : BitVec 64), 18446744073709551616 - s.toNat ≤ n → PB a s (Jd a n s) := by
 intro n
 induction n with
 | zero => intro s h; have := s.isLt; omega
 | succ n ih =>
  intro s h
  rw [Jd]
  by_cases e : s ||| DK a s = s
  ·rw [if_pos e]
   refine ⟨fun j h => h, fun y hy hs j hj => ?_, fun u hu _ => hu⟩
   have : (DK a s).getLsbD j = true := (R8 hl s j).2 ⟨y, hy, hs, hj⟩
   rw [← e, BitVec.getLsbD_or, this, Bool.or_true]
  ·rw [if_neg e]
   have hg := Ld e
   obtain ⟨h1, h2, h3⟩ := ih (s ||| DK a s) (by omega)
   refine ⟨fun j hj => h1 j (by rw [BitVec.getLsbD_or, hj, Bool.true_or]), h2, fun u hu hc => h3 u (fun j hj => ?_) hc⟩
   rw [BitVec.getLsbD_or, Bool.or_eq_true] at hj
   rcases hj with hj | hj
   ·exact hu j hj
   ·obtain ⟨i, hi, hs, hij⟩ := (R8 hl s j).1 hj
    exact hc i hi (hu i hs) j hij
theorem YV {a : Rows} (hl : a.length ≤ 64) (s : BitVec 64) : PB a s (Jl a s) := A3c hl _ s (by omega)
theorem Aaa (s t : BitVec 64) : (s ||| t = t) ↔ Sub s t := by
 constructor
 ·intro h j hj
  rw [← h, BitVec.getLsbD_or, hj, Bool.true_or]
 ·intro h
  apply BZ
  intro j _
  rw [BitVec.getLsbD_or]
  cases hs : s.getLsbD j with
  | true => rw [h j hs]; rfl
  | false => simp
def orF (a b : Rows) : Rows := if DJ a && DJ b && decide (a.length = b.length) then (List.range a.length).map (fun i => a.getD i 0#64 ||| b.getD i 0#64) else []
/-- What has been reckoned of a list of so many, up to k. -/
def CD {α : Type} (n k : Nat) (f : Nat → α) (z : α) : List α := (List.range n).map fun j => if j < k then f j else z
theorem Pl {α : Type} {n k : Nat} {f : Nat → α} {z : α} : (CD n k f z).length = n := by simp [CD]
theorem JM {α : Type} {n k : Nat} {f : Nat → α} {z : α} (h : k < n) : (CD n k f z)[k]? = some z := by
 unfold CD
 rw [List.getElem?_map, List.getElem?_range h]
 simp
theorem Lz {α β : Type} {n k : Nat} {f : Nat → α} {z : α} (g : α → β) : ((CD n k f z).map g).set k (g (f k)) = (CD n (k + 1) f z).map g := by
 apply List.ext_getElem
 ·simp [CD]
 ·intro j h1 h2
  simp only [CD, List.getElem_set, List.getElem_map, List.getElem_range]
  by_cases e : k = j
  ·subst e; simp
  ·have : (j < k + 1) ↔ (j < k) := by omega
   simp [e, this]
theorem EL {α : Type} {n : Nat} {f : Nat → α} {z : α} : CD n 0 f z = List.replicate n z := by
 apply List.ext_getElem
 ·simp [CD]
 ·intro j h1 h2; simp [CD]
theorem Hj {α : Type} {n : Nat} {f : Nat → α} {z : α} : CD n n f z = (List.range n).map f := by
 apply List.map_congr_left
 intro j hj
 rw [if_pos (List.mem_range.1 hj)]
end Go.AM

namespace Go.AM
open Go Go.Proofs
def Ax.zero : Ax := ⟨0, 0, 0, 0, 0, 0, false, false, []⟩
/-- The node of a number. -/
def A4.at (t : A4) (i : Nat) : Ax := t.nodes.getD i Ax.zero
/-- What a node stands beneath has a smaller number. -/
def KQ (t : A4) : Prop := ∀ i, i < t.nodes.length → (t.at i).up < i
/-- Is a met, going up? -/
def Kh (t : A4) (a : Int) : Nat → Int → Bool
 | 0, _ => false
 | n + 1, x => if x < 0 then false else if x = a then true else Kh t a n (t.at x.toNat).up
theorem RK {t : A4} (h : KQ t) (a : Int) : ∀ (n : Nat) (x : Int), x < n → x < t.nodes.length → Kh t a (n + 1) x = Kh t a n x := by
 intro n
 induction n with
 | zero =>
  intro x hx _
  show (if x < 0 then false else if x = a then true else Kh t a 0 (t.at x.toNat).up) = false
  rw [if_pos (by omega)]
 | succ n ih =>
  intro x hx hl
  rw [Kh]
  by_cases h0 : x < 0
  ·rw [if_pos h0, Kh, if_pos h0]
  ·rw [if_neg h0]
   conv => rhs; rw [Kh, if_neg h0]
   by_cases h1 : x = a
   ·rw [if_pos h1, if_pos h1]
   ·rw [if_neg h1, if_neg h1]
    have := h x.toNat (by omega)
    exact ih _ (by omega) (by omega)
/-- Is b beneath a? -/
def BA (t : A4) (a : Int) (b : Nat) : Bool := Kh t a t.nodes.length (t.at b).up
theorem Aet {t : A4} {i : Nat} (h : i < t.nodes.length) : t.at i = t.nodes[i] := by
 simp only [A4.at, List.getD_eq_getElem?_getD, List.getElem?_eq_getElem h, Option.getD_some]
theorem A6 {t : A4} {i : Nat} (h : i < t.nodes.length) : t.nodes[i]? = some (t.at i) := by rw [Aet h, List.getElem?_eq_getElem h]
def Ch (t : A4) (n : Int) : Bool := decide (0 ≤ n) && decide (n < t.nodes.length)
theorem Aq {t : A4} {n : Int} (h : Ch t n = true) : ∃ m : Nat, n = (m : Int) ∧ m < t.nodes.length := by
 simp only [Ch, Bool.and_eq_true, decide_eq_true_eq] at h
 obtain ⟨m, rfl⟩ := Int.eq_ofNat_of_zero_le h.1
 exact ⟨m, rfl, by omega⟩
theorem EM {t : A4} {m : Nat} (h : m < t.nodes.length) : Ch t (m : Int) = true := by
 simp only [Ch, Bool.and_eq_true, decide_eq_true_eq]
 omega
/-- Does a come ahead of b? -/
def Bo (t : A4) (a b : Int) : Bool := Ch t a && Ch t b && (if (t.at a.toNat).thread < 0 then decide (0 ≤ (t.at b.toNat).thread) else BA t a b.toNat)
def Bl (t : A4) (a b : Int) : Bool := Ch t a && Ch t b && !decide (a = b) && decide (0 ≤ (t.at a.toNat).thread) && decide ((t.at a.toNat).thread = (t.at b.toNat).thread) && !BA t a b.toNat && !BA t b a.toNat
def Cu (n : Ax) : Bool := decide (0 ≤ n.thread) && decide (n.kind = 3) && decide (n.mode = 0) && !n.rmw
def LU (n : Ax) : Bool := (decide (n.kind = 2) || decide (n.kind = 4)) && (decide (n.mode = 1) || decide (n.mode = 3) || decide (n.mode = 4))
def Lt (n : Ax) : Bool := (decide (n.kind = 3) && decide (0 ≤ n.thread) || decide (n.kind = 4)) && (decide (n.mode = 2) || decide (n.mode = 3) || decide (n.mode = 4))
end Go.AM

namespace Go.AM
open Go Go.Proofs
theorem Bk {n : Nat} {p : Nat → Bool} (h : ∀ j, j < n → p j = true) : (List.range n).all p = true := by
 rw [List.all_eq_true]
 intro j hj
 exact h j (List.mem_range.1 hj)
theorem Bj {n k : Nat} {p : Nat → Bool} (hk : k < n) (h : p k = false) : (List.range n).all p = false := by
 rw [List.all_eq_false]
 exact ⟨k, List.mem_range.2 hk, by simp [h]⟩
theorem Av {n : Nat} {p : Nat → Bool} : (List.range n).all p = true ↔ ∀ j, j < n → p j = true := by
 rw [List.all_eq_true]
 exact ⟨fun h j hj => h j (List.mem_range.2 hj), fun h j hj => h j (List.mem_range.1 hj)⟩
theorem Vz {n k : Nat} {p : Nat → Bool} (hk : k < n) (h : p k = true) : (List.range n).any p = true := by
 rw [List.any_eq_true]
 exact ⟨k, List.mem_range.2 hk, h⟩
theorem Ay {xs : List Int} {k : Nat} (h : k < xs.length) : xs[k]? = some (xs.getD k 0) := by
 rw [List.getD_eq_getElem?_getD, List.getElem?_eq_getElem h]; rfl
theorem J6 {xs : List (List Int)} {k : Nat} (h : k < xs.length) : xs[k]? = some (xs.getD k []) := by
 rw [List.getD_eq_getElem?_getD, List.getElem?_eq_getElem h]; rfl
theorem Ct {xs : List (List (List Int))} {k : Nat} (h : k < xs.length) : xs[k]? = some (xs.getD k []) := by
 rw [List.getD_eq_getElem?_getD, List.getElem?_eq_getElem h]; rfl
theorem Au {α : Type} {xs : List α} {k : Nat} {d : α} (h : k < xs.length) : xs.getD k d ∈ xs := by
 rw [List.getD_eq_getElem?_getD, List.getElem?_eq_getElem h]
 exact List.getElem_mem h
def BB (l : List Int) (n : Int) : Bool := l.any fun y => decide (n = y)
theorem Ag {l : List Int} {n : Int} : BB l n = true ↔ n ∈ l := by
 unfold BB
 rw [List.any_eq_true]
 constructor
 ·rintro ⟨x, hx, e⟩; rw [of_decide_eq_true e]; exact hx
 ·intro h; exact ⟨n, h, by simp⟩
def Hz (l : List Int) (n : Int) : Int := CL (fun y => decide (n = y)) l
theorem EC (l : List Int) (n : Int) : decide (0 ≤ Hz l n) = BB l n := K9 _ _
theorem Cb (l : List Int) (n : Int) : decide (Hz l n < 0) = !BB l n := by
 rw [← EC]
 by_cases h : 0 ≤ Hz l n
 ·have : ¬ Hz l n < 0 := by omega
  simp [h, this]
 ·have : Hz l n < 0 := by omega
  simp [h, this]
theorem LW {α : Type} {p : α → Bool} {l : List α} (h : l.any p = true) : ∃ k : Nat, CL p l = k ∧ ∃ hk : k < l.length, p l[k] = true ∧ ∀ (j : Nat) (hj : j < k), p (l[j]'(by omega)) = false := by
 unfold CL
 cases e : l.findIdx? p with
 | none =>
  rw [List.findIdx?_eq_none_iff] at e
  rw [List.any_eq_true] at h
  obtain ⟨x, hx, hp⟩ := h
  rw [e x hx] at hp; cases hp
 | some i =>
  obtain ⟨hi, h1, h2⟩ := List.findIdx?_eq_some_iff_getElem.1 e
  exact ⟨i, rfl, hi, h1, fun j hj => by simpa using h2 j hj⟩
theorem V4 {α : Type} {p : α → Bool} {l : List α} (h : l.any p = false) : CL p l = -1 := by
 apply Ds
 intro x hx
 rw [List.any_eq_false] at h
 simpa using h x hx
theorem EN {l : List Int} {n : Int} (h : BB l n = true) : ∃ k : Nat, Hz l n = k ∧ k < l.length ∧ l.getD k 0 = n ∧ ∀ j, j < k → l.getD j 0 ≠ n := by
 obtain ⟨k, e, hk, h1, h2⟩ := LW h
 refine ⟨k, e, hk, ?_, fun j hj => ?_⟩
 ·rw [List.getD_eq_getElem?_getD, List.getElem?_eq_getElem hk]
  exact (of_decide_eq_true h1).symm
 ·have := h2 j hj
  rw [List.getD_eq_getElem?_getD, List.getElem?_eq_getElem (by omega)]
  intro e; rw [Option.getD_some] at e; rw [e] at this; simp at this
theorem A6W {l : List Int} {n : Int} (h : BB l n = false) : Hz l n = -1 := V4 h
/-- Is it more than the one ahead of it? -/
def CS (l : List Int) (k : Nat) : Bool := decide (k = 0) || decide (l.getD (k - 1) 0 < l.getD k 0)
def L5 (t : A4) : BitVec 64 := Bw fun i => decide (i < t.nodes.length) && decide ((t.at i).up < 0)
def BR (t : A4) (l : List Int) (k : Nat) : Bool := Ch t (l.getD k 0) && CS l k && (decide ((t.at (l.getD k 0).toNat).up < 0) || BB l (t.at (l.getD k 0).toNat).up)
def BT (t : A4) (l : List Int) : Bool := (List.range l.length).all (BR t l) && decide (L5 t ||| D6 l = D6 l)
def AH (t : A4) (x y : Int) : Bool := Cu (t.at x.toNat) && Cu (t.at y.toNat) && decide ((t.at x.toNat).val = (t.at y.toNat).val) && Bl t x y
def JH (t : A4) (n loc : Int) : Bool := decide ((t.at n.toNat).kind = 3) && decide ((t.at n.toNat).loc = loc)
def By (t : A4) (l has : List Int) (loc : Int) (i : Nat) : Bool := BB has (l.getD i 0) && CS l i && JH t (l.getD i 0) loc && decide (0 ≤ (t.at (l.getD i 0).toNat).thread) && (List.range i).all fun k => AH t (l.getD i 0) (l.getD k 0)
def Db (t : A4) (l has : List Int) (loc : Int) : Bool := !decide (l.length = 0) && (List.range l.length).all (By t l has loc)
def Gz (t : A4) (s : A9) (i : Nat) : Bool :=
 if (t.at (s.has.getD i 0).toNat).kind = 2 then BB s.has (s.jf.getD i 0) && JH t (s.jf.getD i 0) (t.at (s.has.getD i 0).toNat).loc && decide ((t.at (s.jf.getD i 0).toNat).val = (t.at (s.has.getD i 0).toNat).val) else decide (s.jf.getD i 0 = -1)
def J1 (t : A4) (s : A9) (loc : Nat) : Bool :=
 let m := s.mo.getD loc []
 !decide (m.length = 0) && decide (m.getD 0 [] = [(loc : Int)]) && (List.range m.length).all fun i => decide (i = 0) || Db t (m.getD i []) s.has loc
def LG (t : A4) (s : A9) (i : Nat) : Bool :=
 !decide ((t.at (s.has.getD i 0).toNat).kind = 3) || decide (((s.mo.getD (t.at (s.has.getD i 0).toNat).loc.toNat []).filter fun c => BB c (s.has.getD i 0)).length = 1)
def Bq (t : A4) (s : A9) : Bool := BT t s.has && decide (s.jf.length = s.has.length) && decide (s.mo.length = t.locs.length) && (List.range s.has.length).all (Gz t s) && (List.range s.mo.length).all (J1 t s) && (List.range s.has.length).all (LG t s)
/-- Sizes that fit. -/
structure Kp (s : A9) : Prop where
 has : s.has.length ≤ 1000
 jf : s.jf.length ≤ 1000
 mo : s.mo.length ≤ 1000
 mi : ∀ l ∈ s.mo, l.length ≤ 1000
 mc : ∀ l ∈ s.mo, ∀ c ∈ l, c.length ≤ 1000
theorem Kp.mi' {s : A9} (h : Kp s) (k : Nat) : (s.mo.getD k []).length ≤ 1000 := by
 by_cases hk : k < s.mo.length
 ·exact h.mi _ (Au hk)
 ·rw [List.getD_eq_getElem?_getD, List.getElem?_eq_none (by omega)]; simp
theorem Kp.mc' {s : A9} (h : Kp s) (k j : Nat) : ((s.mo.getD k []).getD j []).length ≤ 1000 := by
 by_cases hk : k < s.mo.length
 ·by_cases hj : j < (s.mo.getD k []).length
  ·exact h.mc _ (Au hk) _ (Au hj)
  ·rw [List.getD_eq_getElem?_getD, List.getElem?_eq_none (by omega)]; simp
 ·rw [List.getD_eq_getElem?_getD, List.getElem?_eq_none (by rw [List.getD_eq_getElem?_getD, List.getElem?_eq_none (by omega)]; simp)]; simp
def jfF (s : A9) (n : Int) : Int := if Hz s.has n < 0 ∨ (s.jf.length : Int) ≤ Hz s.has n then -1 else s.jf.getD (Hz s.has n).toNat 0
def Ep (s : A9) (loc w : Int) : Int := if loc < 0 ∨ (s.mo.length : Int) ≤ loc then -1 else CL (fun c => BB c w) (s.mo.getD loc.toNat [])
def Jf (a b : Ax) (pa pb : Int) : Bool :=
 (!(decide (a.kind = 2) || decide (a.kind = 3)) || !(decide (b.kind = 2) || decide (b.kind = 3)) || !decide (a.loc = b.loc)) || (if b.kind = 2 then decide (pa ≤ pb) else decide (pa < pb))
end Go.AM

namespace Go.AM
open Go Go.Proofs
/-- Does the node at come next, right beneath another one, of its thread? -/
def BE (t : A4) (a u : Nat) : Bool := decide (a < t.nodes.length) && decide ((t.at a).up = u) && decide ((t.at a).thread = (t.at u).thread)
def H8 (t : A4) (v : Int) : Bool := decide (0 ≤ v) && decide (v < t.vals)
def Jt (t : A4) (v : Int) : Bool := decide (0 ≤ v) && decide (v < t.locs.length)
def A2h (t : A4) (u : Nat) : Bool := (t.at u).fin && decide ((t.at u).regs.length = (t.regs.getD (t.at u).thread.toNat []).length) && (t.at u).regs.all (H8 t)
/-- May a node that is no read stand beneath u, all by itself? -/
def DD (t : A4) (u : Nat) : Bool :=
 let n := t.at (u + 1); let m := t.at u
 (decide (n.kind = 4) && decide (n.loc = 0) && decide (n.val = 0) && !n.rmw && decide (1 ≤ n.mode) && decide (n.mode ≤ 4)) ||
 (decide (n.kind = 3) && Jt t n.loc && H8 t n.val &&
  (if n.rmw then decide (0 ≤ n.mode) && decide (n.mode ≤ 4) && decide (m.kind = 2) && decide (m.loc = n.loc) && decide (m.mode = n.mode) else decide (n.mode = 0) || decide (n.mode = 2) || decide (n.mode = 4)))
def JK (t : A4) (u : Nat) : Bool := decide (u + 1 < t.nodes.length) && decide ((t.at (u + 1)).up = u) && (t.at (u + 1)).rmw
/-- What a read beside others must be. -/
def EX (t : A4) (a v : Nat) (loc mode : Int) : Bool := decide ((t.at a).kind = 2) && decide ((t.at a).val = v) && decide ((t.at a).loc = loc) && decide ((t.at a).mode = mode) && !(t.at a).rmw
def Aba (t : A4) (u : Nat) : Prop := u < t.nodes.length ∧ 0 ≤ (t.at u).thread ∧ (t.at u).thread < t.regs.length
/-- From u + 1 up to e stands what is beneath u. -/
def KC (t : A4) : Nat → Nat → Nat → Prop
 | 0, _, _ => False
 | n + 1, u, e => Aba t u ∧ (
  (BE t (u + 1) u = false ∧ A2h t u = true ∧ e = u + 1) ∨
  (BE t (u + 1) u = true ∧ (t.at u).fin = false ∧ (t.at u).regs = [] ∧ DD t u = true ∧ KC t n (u + 1) e) ∨
  (BE t (u + 1) u = true ∧ (t.at u).fin = false ∧ (t.at u).regs = [] ∧ ∃ (vals : Nat) (k : Nat → Nat) (loc mode : Int), t.vals = vals ∧ 0 < vals ∧ k 0 = u + 1 ∧ k vals = e ∧ Jt t loc = true ∧
   (∀ v, v < vals → BE t (k v) u = true ∧ EX t (k v) v loc mode = true ∧ KC t n (k v) (k (v + 1))) ∧
   ((mode = 0 ∨ mode = 1 ∨ mode = 4) ∨ (0 ≤ mode ∧ mode ≤ 4 ∧ ∃ v, v < vals ∧ JK t (k v) = true))))
/-- A location's first write. -/
def JR (t : A4) (i : Nat) : Bool := decide ((t.at i).thread = -1) && decide ((t.at i).up = -1) && decide ((t.at i).kind = 3) && decide ((t.at i).loc = i) && decide ((t.at i).mode = 0) && H8 t (t.at i).val && !(t.at i).rmw && !(t.at i).fin && decide ((t.at i).regs = [])
def Gu (t : A4) (u i : Nat) : Bool := decide ((t.at u).thread = i) && decide ((t.at u).up = -1) && decide ((t.at u).kind = 1) && decide ((t.at u).loc = 0) && decide ((t.at u).mode = 0) && decide ((t.at u).val = 0) && !(t.at u).rmw
structure Aj (t : A4) : Prop where
 v2 : 2 ≤ t.vals
 v4 : t.vals ≤ 4
 l4 : t.locs.length ≤ 4
 ln : t.locs.Nodup
 n64 : t.nodes.length ≤ 64
 r1 : 1 ≤ t.regs.length
 r4 : t.regs.length ≤ 4
 rl : ∀ l ∈ t.regs, l.length ≤ 4 ∧ l.Nodup
 first : t.locs.length ≤ t.nodes.length ∧ ∀ i, i < t.locs.length → JR t i = true
 thr : ∃ s : Nat → Nat, s 0 = t.locs.length ∧ s t.regs.length = t.nodes.length ∧ ∀ i, i < t.regs.length → Gu t (s i) i = true ∧ ∃ n, KC t n (s i) (s (i + 1))
end Go.AM

namespace Go.AM
open Go Go.Proofs
theorem A7w {v n : Int} (hn : 0 < n) : (v.tmod n < 0 → v.tmod n + n = v % n ∧ -n < v.tmod n) ∧ (¬ v.tmod n < 0 → v.tmod n = v % n) := by
 have h1 : v.tmod n < n := Int.tmod_lt_of_pos v hn
 have h2 : -n < v.tmod n := Int.lt_tmod_of_pos v hn
 have h3 : v.tmod n + n * v.tdiv n = v := Int.tmod_add_mul_tdiv v n
 have h4 : v % n = v.tmod n % n := by
  conv => lhs; rw [← h3]
  exact Int.add_mul_emod_self_left ..
 constructor
 ·intro h
  refine ⟨?_, h2⟩
  rw [h4, ← Int.add_emod_right, Int.emod_eq_of_lt (by omega) (by omega)]
 ·intro h
  rw [h4, Int.emod_eq_of_lt (by omega) (by omega)]
/-- A row of an expression. -/
inductive GE : List VV → Prop
 | mk (op n : Int) (nm : ByteArray) (kids : List (List VV)) : kids.length ≤ 1000 → (∀ k ∈ kids, GE k) → GE [.i .i64 op, .i .i64 n, .s nm, .ls kids]
theorem GE.len {r : List VV} (h : GE r) : r.length = 4 := by cases h; rfl
theorem GE.frz {r : List VV} (h : GE r) {hh : VH} {d : Nat} : AR (frz hh (d + 1)) r = some (r, []) := by cases h; rfl
theorem GE.take {r : List VV} (h : GE r) : r.take 4 = r := by cases h; rfl
theorem GE.cell {r : List VV} (h : GE r) : r.all VV.cell = true := by cases h; rfl
theorem QM {l : List (List VV)} {k : Nat} (h : k < l.length) : l[k]? = some l[k] := List.getElem?_eq_getElem h
def N4 : List ByteArray := [⟨⟨[97]⟩⟩, ⟨⟨[98]⟩⟩, ⟨⟨[99]⟩⟩, ⟨⟨[100]⟩⟩]
def G7 (k : Int) : Bool := decide (k = 1) || decide (k = 2) || decide (k = 4) || decide (k = 5)
/-- What a statement of a kind must have. -/
structure OKS (locs : List ByteArray) (kind mode : Int) (reg loc : ByteArray) (args : Nat) : Prop where
 k : 1 ≤ kind ∧ kind ≤ 7
 rn : G7 kind = true → reg ∈ N4
 one : kind = 1 ∨ kind = 3 ∨ kind = 4 ∨ kind = 5 ∨ kind = 7 → 1 ≤ args
 two : kind = 5 → 2 ≤ args
 loc : kind = 2 ∨ kind = 3 ∨ kind = 4 ∨ kind = 5 → loc ∈ locs
 ml : kind = 2 → mode = 0 ∨ mode = 1 ∨ mode = 4
 ms : kind = 3 → mode = 0 ∨ mode = 2 ∨ mode = 4
 ma : kind = 4 ∨ kind = 5 → 0 ≤ mode ∧ mode ≤ 4
 mf : kind = 6 → 1 ≤ mode ∧ mode ≤ 4
 rs : reg.size ≤ 1000
abbrev rS (kind mode : Int) (reg loc : ByteArray) (args th el : List (List VV)) : List VV := [.i .i64 kind, .i .i64 mode, .s reg, .s loc, .ls args, .ls th, .ls el]
inductive GS (locs : List ByteArray) : List VV → Prop
 | mk (kind mode : Int) (reg loc : ByteArray) (args th el : List (List VV)) : args.length ≤ 1000 → (∀ a ∈ args, GE a) → th.length ≤ 1000 → el.length ≤ 1000 →
  (∀ s ∈ th, GS locs s) → (∀ s ∈ el, GS locs s) → OKS locs kind mode reg loc args.length → GS locs (rS kind mode reg loc args th el)
/-- All registers that are set have these names. -/
inductive RI (names : List ByteArray) : List VV → Prop
 | mk (kind mode : Int) (reg loc : ByteArray) (args th el : List (List VV)) : (G7 kind = true → reg ∈ names) → (∀ s ∈ th, RI names s) → (∀ s ∈ el, RI names s) → RI names (rS kind mode reg loc args th el)
theorem RI.mono {n m : List ByteArray} (h : ∀ x ∈ n, x ∈ m) {r : List VV} (k : RI n r) : RI m r := by
 induction k with
 | mk kind mode reg loc args th el h1 h2 h3 ih1 ih2 => exact .mk _ _ _ _ _ _ _ (fun e => h _ (h1 e)) ih1 ih2
theorem GS.len {l : List ByteArray} {r : List VV} (h : GS l r) : r.length = 7 := by cases h; rfl
theorem GS.frz {l : List ByteArray} {r : List VV} (h : GS l r) {hh : VH} {d : Nat} : AR (frz hh (d + 1)) r = some (r, []) := by cases h; rfl
theorem GS.take {l : List ByteArray} {r : List VV} (h : GS l r) : r.take 7 = r := by cases h; rfl
theorem GS.cell {l : List ByteArray} {r : List VV} (h : GS l r) : r.all VV.cell = true := by cases h; rfl
theorem A2D {c : List ByteArray} {l : List (List VV)} (h : ∀ k ∈ l, GS c k) : D8 7 l = true := by
 unfold D8
 rw [List.all_eq_true]
 intro r hr
 rw [(h r hr).len]; rfl
end Go.AM

namespace Go.AM
open Go Go.Proofs
theorem Df {t t' : A4} {l : List Ax} (h : t'.nodes = t.nodes ++ l) {i : Nat} (hi : i < t.nodes.length) : t'.at i = t.at i := by
 unfold A4.at
 rw [h, List.getD_eq_getElem?_getD, List.getD_eq_getElem?_getD, List.getElem?_append_left hi]
theorem A6w {t t' : A4} {l : List Ax} (h : t'.nodes = t.nodes ++ l) {i : Nat} (hi : t.nodes.length ≤ i) (h2 : i < t'.nodes.length) : t'.at i ∈ l := by
 have hl : t'.nodes.length = t.nodes.length + l.length := by rw [h, List.length_append]
 unfold A4.at
 rw [h, List.getD_eq_getElem?_getD, List.getElem?_append_right hi, List.getElem?_eq_getElem (by omega)]
 exact List.getElem_mem _
/-- The same but for nodes that come behind. -/
structure Wm (t t' : A4) (l : List Ax) : Prop where
 n : t'.nodes = t.nodes ++ l
 v : t'.vals = t.vals
 l : t'.locs = t.locs
 r : t'.regs = t.regs
theorem Wm.len {t t' : A4} {l : List Ax} (h : Wm t t' l) : t.nodes.length ≤ t'.nodes.length := by rw [h.n, List.length_append]; omega
theorem ZD {t t' : A4} {l : List Ax} (h : Wm t t' l) {u a : Nat} (hu : u < t.nodes.length) (hx : ∀ x ∈ l, x.up ≠ (u : Int)) : BE t' a u = BE t a u := by
 unfold BE
 by_cases ha : a < t.nodes.length
 ·have := h.len
  have ha' : a < t'.nodes.length := by omega
  rw [Df h.n ha, Df h.n hu, decide_eq_true ha, decide_eq_true ha']
 ·rw [decide_eq_false ha]
  by_cases ha' : a < t'.nodes.length
  ·have := hx _ (A6w h.n (by omega) ha')
   rw [decide_eq_false this]; simp
  ·rw [decide_eq_false ha']; simp
theorem WW {t t' : A4} {l : List Ax} (h : Wm t t' l) {u : Nat} (hu : u < t.nodes.length) (hx : ∀ x ∈ l, x.up ≠ (u : Int)) : JK t' u = JK t u := by
 unfold JK
 by_cases ha : u + 1 < t.nodes.length
 ·have := h.len
  have ha' : u + 1 < t'.nodes.length := by omega
  rw [Df h.n ha, decide_eq_true ha, decide_eq_true ha']
 ·rw [decide_eq_false ha]
  by_cases ha' : u + 1 < t'.nodes.length
  ·have := hx _ (A6w h.n (by omega) ha')
   rw [decide_eq_false this]; simp
  ·rw [decide_eq_false ha']; simp
theorem KC.lt {t : A4} : ∀ {n u e : Nat}, KC t n u e → u < e := by
 intro n
 induction n with
 | zero => intro u e h; exact h.elim
 | succ n ih =>
  intro u e h
  rcases h.2 with ⟨_, _, rfl⟩ | ⟨_, _, _, _, b⟩ | ⟨_, _, _, vals, k, loc, mode, _, h0, hk0, hke, _, hs, _⟩
  ·omega
  ·have := ih b; omega
  ·have key : ∀ j, j ≤ vals → u + 1 ≤ k j := by
    intro j
    induction j with
    | zero => intro _; omega
    | succ j ihj =>
     intro hj
     have h1 := ihj (by omega)
     have h2 := ih (hs j (by omega)).2.2
     omega
   have := key vals (Nat.le_refl _)
   omega
theorem Je {t : A4} {a u : Nat} (h : BE t a u = true) : a < t.nodes.length := by
 unfold BE at h
 simp only [Bool.and_eq_true, decide_eq_true_eq] at h
 exact h.1.1
/-- The places of kids rise. -/
theorem A3u {t : A4} {n : Nat} {k : Nat → Nat} {vals : Nat} (hs : ∀ v, v < vals → KC t n (k v) (k (v + 1))) : ∀ i j, i ≤ j → j ≤ vals → k i ≤ k j := by
  intro i j hij hj
  induction j with
  | zero => have : i = 0 := by omega
            subst this; exact Nat.le_refl _
  | succ j ih =>
    by_cases e : i = j + 1
    · subst e; exact Nat.le_refl _
    · have h1 := ih (by omega) (by omega)
      have h2 := (hs j (by omega)).lt
      omega
theorem KC.le {t : A4} : ∀ {n u e : Nat}, KC t n u e → e ≤ t.nodes.length := by
 intro n
 induction n with
 | zero => intro u e h; exact h.elim
 | succ n ih =>
  intro u e h
  rcases h.2 with ⟨_, _, rfl⟩ | ⟨_, _, _, _, b⟩ | ⟨_, _, _, vals, k, loc, mode, _, h0, hk0, hke, _, hs, _⟩
  ·exact h.1.1
  ·exact ih b
  ·have := ih (hs (vals - 1) (by omega)).2.2
   rw [show vals - 1 + 1 = vals by omega, hke] at this
   exact this
theorem KC.more {t t' : A4} {l : List Ax} (h : Wm t t' l) : ∀ {n u e : Nat}, KC t n u e → (∀ x ∈ l, x.up < (u : Int) ∨ (e : Int) ≤ x.up) → KC t' n u e := by
 intro n
 induction n with
 | zero => intro u e b; exact b.elim
 | succ n ih =>
  intro u e b hx
  have hlt := b.lt
  have hle := b.le
  have hl := h.len
  obtain ⟨⟨i1, i2, i3⟩, b⟩ := b
  have hu : t'.at u = t.at u := Df h.n i1
  have hc : ∀ a, BE t' a u = BE t a u := fun a => ZD h i1 fun x hx' e' => by rcases hx x hx' with h1 | h1 <;> omega
  refine ⟨⟨by omega, by rw [hu]; exact i2, by rw [hu, h.r]; exact i3⟩, ?_⟩
  rcases b with ⟨b1, b2, b3⟩ | ⟨b1, b2, b3, b4, b5⟩ | ⟨b1, b2, b3, vals, k, loc, mode, b4, b5, b6, b7, b8, b9, b10⟩
  ·refine .inl ⟨(hc _).trans b1, ?_, b3⟩
   unfold A2h H8 at b2 ⊢
   rw [hu, h.r, h.v]; exact b2
  ·refine .inr (.inl ⟨(hc _).trans b1, by rw [hu]; exact b2, by rw [hu]; exact b3, ?_, ih b5 fun x hx' => ?_⟩)
   ·have := Je b1
    unfold DD Jt H8 at b4 ⊢
    rw [hu, Df h.n this, h.l, h.v]; exact b4
   ·rcases hx x hx' with h1 | h1
    ·exact .inl (by omega)
    ·exact .inr h1
  ·have hr := A3u fun v hv => (b9 v hv).2.2
   refine .inr (.inr ⟨(hc _).trans b1, by rw [hu]; exact b2, by rw [hu]; exact b3, vals, k, loc, mode, by rw [h.v]; exact b4, b5, b6, b7, by unfold Jt at b8 ⊢; rw [h.l]; exact b8, fun v hv => ?_, ?_⟩)
   ·obtain ⟨c1, c2, c3⟩ := b9 v hv
    have h1 := hr 0 v (by omega) (by omega)
    have h2 := hr (v + 1) vals (by omega) (by omega)
    refine ⟨(hc _).trans c1, ?_, ih c3 fun x hx' => ?_⟩
    ·unfold EX at c2 ⊢
     rw [Df h.n (Je c1)]; exact c2
    ·rcases hx x hx' with h3 | h3
     ·exact .inl (by omega)
     ·exact .inr (by omega)
   ·rcases b10 with b10 | ⟨c1, c2, v, c3, c4⟩
    ·exact .inl b10
    ·have h1 := hr 0 v (by omega) (by omega)
     have h2 := hr (v + 1) vals (by omega) (by omega)
     have h3 := (b9 v c3).2.2.lt
     refine .inr ⟨c1, c2, v, c3, ?_⟩
     rw [WW h (Je (b9 v c3).1) fun x hx' e' => by rcases hx x hx' with h4 | h4 <;> omega]
     exact c4
theorem KC.fuel {t : A4} : ∀ {n u e : Nat}, KC t n u e → KC t (n + 1) u e := by
 intro n
 induction n with
 | zero => intro u e h; exact h.elim
 | succ n ih =>
  intro u e h
  refine ⟨h.1, ?_⟩
  rcases h.2 with b | ⟨b1, b2, b3, b4, b5⟩ | ⟨b1, b2, b3, vals, k, loc, mode, b4, b5, b6, b7, b8, b9, b10⟩
  ·exact .inl b
  ·exact .inr (.inl ⟨b1, b2, b3, b4, ih b5⟩)
  ·exact .inr (.inr ⟨b1, b2, b3, vals, k, loc, mode, b4, b5, b6, b7, b8, fun v hv => ⟨(b9 v hv).1, (b9 v hv).2.1, ih (b9 v hv).2.2⟩, b10⟩)
theorem KC.fuel' {t : A4} {n m u e : Nat} (h : KC t n u e) (hm : n ≤ m) : KC t m u e := by
  induction m with
  | zero => have : n = 0 := by omega
            subst this; exact h
  | succ m ih =>
    by_cases e : n = m + 1
    · subst e; exact h
    · exact (ih (by omega)).fuel
end Go.AM

namespace Go.AM
open Go Go.Proofs
abbrev TT (vals : Int) (locs : List ByteArray) (rg : List (List ByteArray)) (ns : List Ax) : A4 := ⟨vals, locs, rg, ns⟩
/-- From a node on all has been built that is beneath it. -/
def Xn (vals : Int) (locs : List ByteArray) (rg : List (List ByteArray)) (ns : List Ax) (n : Ax) (ns' : List Ax) : Prop :=
 ∃ (f : Bool) (g : List Int) (l : List Ax), ns' = ns ++ { n with fin := f, regs := g } :: l ∧ (∀ x ∈ l, (ns.length : Int) ≤ x.up) ∧ ∃ m, KC (TT vals locs rg ns') m ns.length ns'.length
def HN (nl : Nat) (vals : Int) (m n : Ax) : Bool :=
 (decide (n.kind = 4) && decide (n.loc = 0) && decide (n.val = 0) && !n.rmw && decide (1 ≤ n.mode) && decide (n.mode ≤ 4)) ||
 (decide (n.kind = 3) && (decide (0 ≤ n.loc) && decide (n.loc < nl)) && (decide (0 ≤ n.val) && decide (n.val < vals)) &&
  (if n.rmw then decide (0 ≤ n.mode) && decide (n.mode ≤ 4) && decide (m.kind = 2) && decide (m.loc = n.loc) && decide (m.mode = n.mode) else decide (n.mode = 0) || decide (n.mode = 2) || decide (n.mode = 4)))
theorem ZN (t : A4) (u : Nat) : DD t u = HN t.locs.length t.vals (t.at u) (t.at (u + 1)) := rfl
theorem KE {vals : Int} {locs : List ByteArray} {rg : List (List ByteArray)} {a : List Ax} {x : Ax} {b : List Ax} : (TT vals locs rg (a ++ x :: b)).at a.length = x := by
 simp [A4.at]
theorem A8s {vals : Int} {locs : List ByteArray} {rg : List (List ByteArray)} {a : List Ax} {x y : Ax} {b : List Ax} : (TT vals locs rg (a ++ x :: y :: b)).at (a.length + 1) = y := by
 simp [A4.at]
theorem A5S {vals : Int} {locs : List ByteArray} {rg : List (List ByteArray)} {ns : List Ax} {n : Ax} {th : Nat} (ht : n.thread = th) (hth : th < rg.length) {g : List Int} (hg : g.length = (rg.getD th []).length) (hv : ∀ v ∈ g, 0 ≤ v ∧ v < vals) :
  Xn vals locs rg ns n (ns ++ [{ n with fin := true, regs := g }]) := by
 refine ⟨true, g, [], rfl, by simp, 1, ?_⟩
 have ha : (TT vals locs rg (ns ++ [{ n with fin := true, regs := g }])).at ns.length = { n with fin := true, regs := g } := KE
 have hl : (TT vals locs rg (ns ++ [{ n with fin := true, regs := g }])).nodes.length = ns.length + 1 := by simp
 refine ⟨⟨by omega, by rw [ha]; show 0 ≤ n.thread; omega, by rw [ha]; show n.thread < (rg.length : Int); omega⟩, .inl ⟨?_, ?_, by simp⟩⟩
 ·unfold BE
  rw [hl]; simp
 ·unfold A2h
  rw [ha]
  simp only [ht, Int.toNat_natCast, hg, decide_true, Bool.true_and, List.all_eq_true]
  intro v h
  obtain ⟨h1, h2⟩ := hv v h
  simp [H8, h1, h2]
theorem RC {n : Ax} (h1 : n.fin = false) (h2 : n.regs = []) : ({ n with fin := false, regs := [] } : Ax) = n := by
 cases n; simp at h1 h2; subst h1; subst h2; rfl
theorem KH {vals : Int} {locs : List ByteArray} {rg : List (List ByteArray)} {ns : List Ax} {n x : Ax} {th : Nat} (ht : n.thread = th) (hth : th < rg.length) (hf : n.fin = false) (hr : n.regs = []) (hxu : x.up = ns.length) (hxt : x.thread = th)
  (ha : HN locs.length vals n x = true) {ns' : List Ax} (h : Xn vals locs rg (ns ++ [n]) x ns') : Xn vals locs rg ns n ns' := by
 obtain ⟨f, g, l, rfl, h1, m, h2⟩ := h
 refine ⟨false, [], { x with fin := f, regs := g } :: l, ?_, ?_, m + 1, ?_⟩
 ·rw [RC hf hr]; simp
 ·intro y hy
  rcases List.mem_cons.1 hy with rfl | hy
  ·show (ns.length : Int) ≤ x.up; omega
  ·have := h1 y hy
   simp at this; omega
 ·have e : ns ++ [n] ++ { x with fin := f, regs := g } :: l = ns ++ n :: { x with fin := f, regs := g } :: l := by simp
  rw [e] at h2 ⊢
  have a0 : (TT vals locs rg (ns ++ n :: { x with fin := f, regs := g } :: l)).at ns.length = n := KE
  have a1 : (TT vals locs rg (ns ++ n :: { x with fin := f, regs := g } :: l)).at (ns.length + 1) = { x with fin := f, regs := g } := A8s
  have hl : ns.length + 1 < (TT vals locs rg (ns ++ n :: { x with fin := f, regs := g } :: l)).nodes.length := by simp
  refine ⟨⟨by omega, by rw [a0]; omega, by rw [a0]; show n.thread < (rg.length : Int); omega⟩, .inr (.inl ⟨?_, by rw [a0]; exact hf, by rw [a0]; exact hr, ?_, ?_⟩)⟩
  ·unfold BE
   rw [a0, a1, decide_eq_true hl]
   simp [hxu, hxt, ht]
  ·rw [ZN, a0, a1]; exact ha
  ·simpa using h2
theorem Nm {vals : Int} {locs : List ByteArray} {rg : List (List ByteArray)} {ns : List Ax} {x y : Ax} {ns' : List Ax} (hu : y.up = ns.length) (hr : y.rmw = true) (h : Xn vals locs rg (ns ++ [x]) y ns') : JK (TT vals locs rg ns') ns.length = true := by
 obtain ⟨f, g, l, rfl, _⟩ := h
 have e : (TT vals locs rg (ns ++ [x] ++ { y with fin := f, regs := g } :: l)).at (ns.length + 1) = { y with fin := f, regs := g } := by
  have := KE (vals := vals) (locs := locs) (rg := rg) (a := ns ++ [x]) (x := { y with fin := f, regs := g }) (b := l)
  simpa using this
 unfold JK
 rw [e]
 simp [hu, hr]
/-- Reads side by side, so many as yet. -/
def WI (vals : Int) (locs : List ByteArray) (rg : List (List ByteArray)) (ns : List Ax) (n : Ax) (v : Nat) (loc mode : Int) (rm : Nat → Bool) (nsv : List Ax) : Prop :=
 ∃ (l : List Ax) (k : Nat → Nat), nsv = ns ++ n :: l ∧ (∀ x ∈ l, (ns.length : Int) ≤ x.up) ∧ k 0 = ns.length + 1 ∧ k v = nsv.length ∧
  ∀ j, j < v → BE (TT vals locs rg nsv) (k j) ns.length = true ∧ EX (TT vals locs rg nsv) (k j) j loc mode = true ∧ (∃ m, KC (TT vals locs rg nsv) m (k j) (k (j + 1))) ∧ (rm j = true → JK (TT vals locs rg nsv) (k j) = true)
theorem KT {vals : Int} {locs : List ByteArray} {rg : List (List ByteArray)} {ns : List Ax} {n : Ax} {loc mode : Int} {rm : Nat → Bool} : WI vals locs rg ns n 0 loc mode rm (ns ++ [n]) :=
 ⟨[], fun _ => ns.length + 1, rfl, by simp, rfl, by simp, fun j hj => by omega⟩
theorem A64 {t t' : A4} {l : List Ax} (h : Wm t t' l) {u a : Nat} (hu : u < t.nodes.length) (ha : a < t.nodes.length) : BE t' a u = BE t a u := by
 unfold BE
 have := h.len
 rw [Df h.n ha, Df h.n hu, decide_eq_true ha, decide_eq_true (show a < t'.nodes.length by omega)]
theorem A9G {t : A4} {k : Nat → Nat} {v : Nat} (h : ∀ j, j < v → ∃ m, KC t m (k j) (k (j + 1))) : ∀ i j, i ≤ j → j ≤ v → k i ≤ k j := by
  intro i j hij hj
  induction j with
  | zero => have : i = 0 := by omega
            subst this; exact Nat.le_refl _
  | succ j ih =>
    by_cases e : i = j + 1
    · subst e; exact Nat.le_refl _
    · have h1 := ih (by omega) (by omega)
      obtain ⟨m, h2⟩ := h j (by omega)
      have := h2.lt
      omega
theorem Hr {vals : Int} {locs : List ByteArray} {rg : List (List ByteArray)} {ns : List Ax} {n x : Ax} {v : Nat} {loc mode : Int} {rm : Nat → Bool} {nsv ns' : List Ax} (h : WI vals locs rg ns n v loc mode rm nsv)
  (hxu : x.up = ns.length) (hxt : x.thread = n.thread) (hk : x.kind = 2) (hv : x.val = v) (hl : x.loc = loc) (hm : x.mode = mode) (hr : x.rmw = false) (hg : Xn vals locs rg nsv x ns') (hrm : rm v = true → JK (TT vals locs rg ns') nsv.length = true) :
  WI vals locs rg ns n (v + 1) loc mode rm ns' := by
 obtain ⟨l, k, rfl, h1, h2, h3, h4⟩ := h
 obtain ⟨f, g, l', rfl, g1, m', g2⟩ := hg
 have mo : Wm (TT vals locs rg (ns ++ n :: l)) (TT vals locs rg ((ns ++ n :: l) ++ { x with fin := f, regs := g } :: l')) ({ x with fin := f, regs := g } :: l') := ⟨rfl, rfl, rfl, rfl⟩
 have hlen : (TT vals locs rg (ns ++ n :: l)).nodes.length = (ns ++ n :: l).length := rfl
 have ru := A9G (t := TT vals locs rg (ns ++ n :: l)) (k := k) (v := v) fun j hj => (h4 j hj).2.2.1
 have hnl : ns.length < (ns ++ n :: l).length := by simp
 refine ⟨l ++ { x with fin := f, regs := g } :: l', fun j => if j ≤ v then k j else ((ns ++ n :: l) ++ { x with fin := f, regs := g } :: l').length, by simp, ?_, by simp [h2], if_neg (by omega), ?_⟩
 ·intro y hy
  rcases List.mem_append.1 hy with hy | hy
  ·exact h1 y hy
  ·rcases List.mem_cons.1 hy with rfl | hy
   ·show (ns.length : Int) ≤ x.up; omega
   ·have := g1 y hy; omega
 ·intro j hj
  dsimp only
  rw [if_pos (show j ≤ v by omega)]
  by_cases e : j = v
  ·subst e
   rw [h3, if_neg (by omega)]
   have a0 : (TT vals locs rg ((ns ++ n :: l) ++ { x with fin := f, regs := g } :: l')).at (ns ++ n :: l).length = { x with fin := f, regs := g } := KE
   refine ⟨?_, ?_, ⟨m', g2⟩, hrm⟩
   ·unfold BE
    rw [a0, Df mo.n (by rw [hlen]; exact hnl)]
    have : (TT vals locs rg (ns ++ n :: l)).at ns.length = n := KE
    rw [this]
    simp [hxu, hxt]
   ·unfold EX
    rw [a0]
    simp [hk, hv, hl, hm, hr]
  ·rw [if_pos (show j + 1 ≤ v by omega)]
   obtain ⟨c1, c2, ⟨m, c3⟩, c4⟩ := h4 j (by omega)
   have c0 := Je c1
   have r1 := ru (j + 1) v (by omega) (Nat.le_refl _)
   have r0 := ru 0 j (by omega) (by omega)
   have r2 := c3.lt
   rw [h3] at r1
   rw [h2] at r0
   have hx : ∀ y ∈ ({ x with fin := f, regs := g } :: l' : List Ax), y.up < (k j : Int) ∨ (k (j + 1) : Int) ≤ y.up := by
    intro y hy
    rcases List.mem_cons.1 hy with rfl | hy
    ·left; show x.up < (k j : Int); omega
    ·right; have := g1 y hy; omega
   refine ⟨?_, ?_, ⟨m, c3.more mo hx⟩, fun h => ?_⟩
   ·rw [A64 mo (by rw [hlen]; exact hnl) c0]; exact c1
   ·unfold EX at c2 ⊢
    rw [Df mo.n c0]; exact c2
   ·rw [WW mo c0 fun y hy e => by rcases hx y hy with q | q <;> omega]
    exact c4 h
theorem A78 {t : A4} {k : Nat → Nat} : ∀ v, (∀ j, j < v → ∃ m, KC t m (k j) (k (j + 1))) → ∃ M, ∀ j, j < v → KC t M (k j) (k (j + 1)) := by
 intro v
 induction v with
 | zero => intro _; exact ⟨0, fun j hj => by omega⟩
 | succ v ih =>
  intro h
  obtain ⟨M, hM⟩ := ih fun j hj => h j (by omega)
  obtain ⟨m, hm⟩ := h v (by omega)
  refine ⟨max M m, fun j hj => ?_⟩
  by_cases e : j = v
  ·subst e; exact hm.fuel' (Nat.le_max_right _ _)
  ·exact (hM j (by omega)).fuel' (Nat.le_max_left _ _)
theorem Mh {vals : Nat} {locs : List ByteArray} {rg : List (List ByteArray)} {ns : List Ax} {n : Ax} {th : Nat} (ht : n.thread = th) (hth : th < rg.length) (hf : n.fin = false) (hr : n.regs = []) {loc mode : Int} {rm : Nat → Bool} {nsv : List Ax} (hv : 0 < vals) (hl : 0 ≤ loc ∧ loc < locs.length)
  (hm : (mode = 0 ∨ mode = 1 ∨ mode = 4) ∨ (0 ≤ mode ∧ mode ≤ 4 ∧ ∃ v, v < vals ∧ rm v = true)) (h : WI vals locs rg ns n vals loc mode rm nsv) : Xn vals locs rg ns n nsv := by
 obtain ⟨l, k, rfl, h1, h2, h3, h4⟩ := h
 refine ⟨false, [], l, by rw [RC hf hr], h1, ?_⟩
 obtain ⟨M, hM⟩ := A78 vals fun j hj => (h4 j hj).2.2.1
 have a0 : (TT vals locs rg (ns ++ n :: l)).at ns.length = n := KE
 have c0 := (h4 0 hv).1
 rw [h2] at c0
 refine ⟨M + 1, ⟨by have := Je c0; omega, by rw [a0]; omega, by rw [a0]; show n.thread < (rg.length : Int); omega⟩, .inr (.inr ⟨c0, by rw [a0]; exact hf, by rw [a0]; exact hr, vals, k, loc, mode, rfl, hv, h2, h3, ?_, fun v hv => ⟨(h4 v hv).1, (h4 v hv).2.1, hM v hv⟩, ?_⟩)⟩
 ·simp [Jt, hl.1, hl.2]
 ·rcases hm with hm | ⟨m1, m2, v, m3, m4⟩
  ·exact .inl hm
  ·exact .inr ⟨m1, m2, v, m3, (h4 v m3).2.2.2 m4⟩
end Go.AM

namespace Go.AM
open Go Go.Proofs
def Thr (vals : Int) (locs : List ByteArray) (rg : List (List ByteArray)) (i : Nat) (ns : List Ax) : Prop :=
 (locs.length ≤ ns.length ∧ ∀ j, j < locs.length → JR (TT vals locs rg ns) j = true) ∧ ∃ s : Nat → Nat, s 0 = locs.length ∧ s i = ns.length ∧
  ∀ j, j < i → Gu (TT vals locs rg ns) (s j) j = true ∧ ∃ m, KC (TT vals locs rg ns) m (s j) (s (j + 1))
theorem A4I {vals : Int} {locs : List ByteArray} {rg : List (List ByteArray)} {i : Nat} {ns ns' : List Ax} {x : Ax} (h : Thr vals locs rg i ns) (hx : x = ⟨i, -1, 1, 0, 0, 0, false, false, []⟩) (hg : Xn vals locs rg ns x ns') : Thr vals locs rg (i + 1) ns' := by
 subst hx
 obtain ⟨⟨h1, h2⟩, s, s0, si, hs⟩ := h
 obtain ⟨f, g, l, rfl, g1, m, g2⟩ := hg
 let x' : Ax := ⟨i, -1, 1, 0, 0, 0, false, f, g⟩
 have mo : Wm (TT vals locs rg ns) (TT vals locs rg (ns ++ x' :: l)) (x' :: l) := ⟨rfl, rfl, rfl, rfl⟩
 have hl : (TT vals locs rg ns).nodes.length = ns.length := rfl
 have ru := A9G (t := TT vals locs rg ns) (k := s) (v := i) fun j hj => (hs j hj).2
 refine ⟨⟨by simp; omega, fun j hj => ?_⟩, fun j => if j ≤ i then s j else (ns ++ x' :: l).length, by simp [s0], if_neg (by omega), fun j hj => ?_⟩
 ·have := h2 j hj
  unfold JR H8 at this ⊢
  rw [Df mo.n (by rw [hl]; omega)]
  exact this
 ·dsimp only
  rw [if_pos (show j ≤ i by omega)]
  by_cases e : j = i
  ·subst e
   rw [si, if_neg (by omega)]
   refine ⟨?_, m, g2⟩
   unfold Gu
   have : (TT vals locs rg (ns ++ x' :: l)).at ns.length = x' := KE
   rw [this]; simp [x']
  ·rw [if_pos (show j + 1 ≤ i by omega)]
   obtain ⟨b1, m2, b2⟩ := hs j (by omega)
   have r1 := ru (j + 1) i (by omega) (Nat.le_refl _)
   have r2 := b2.lt
   rw [si] at r1
   refine ⟨?_, m2, b2.more mo fun y hy => ?_⟩
   ·unfold Gu at b1 ⊢
    rw [Df mo.n (by rw [hl]; omega)]; exact b1
   ·rcases List.mem_cons.1 hy with rfl | hy
    ·left; show (-1 : Int) < _; omega
    ·right; have := g1 y hy; omega
/-- The first writes of locations. -/
def Pa (ini : List (ByteArray × Int)) (k : Nat) : List Ax := (List.range k).map fun (i : Nat) => (⟨-1, -1, 3, (i : Int), 0, (ini.getD i default).2, false, false, []⟩ : Ax)
theorem Jj (ini : List (ByteArray × Int)) (k : Nat) : (Pa ini k).length = k := by simp [Pa]
theorem A39 (ini : List (ByteArray × Int)) (k : Nat) : Pa ini (k + 1) = Pa ini k ++ [⟨-1, -1, 3, k, 0, (ini.getD k default).2, false, false, []⟩] := by
 unfold Pa
 rw [List.range_succ, List.map_append]; rfl
theorem A4T {vals : Int} {rg : List (List ByteArray)} {ini : List (ByteArray × Int)} (hv : ∀ x ∈ ini, 0 ≤ x.2 ∧ x.2 < vals) : Thr vals (ini.map (·.1)) rg 0 (Pa ini ini.length) := by
 refine ⟨⟨by simp [Jj], fun j hj => ?_⟩, fun _ => ini.length, by simp, by simp [Jj], fun j hj => by omega⟩
 have hj' : j < ini.length := by simpa using hj
 have e : (TT vals (ini.map (·.1)) rg (Pa ini ini.length)).at j = ⟨-1, -1, 3, j, 0, (ini.getD j default).2, false, false, []⟩ := by
  unfold A4.at
  simp only [List.getD_eq_getElem?_getD]
  rw [List.getElem?_eq_getElem (by rw [Jj]; exact hj')]
  simp [Pa]
 have hm : ini.getD j default ∈ ini := Au hj'
 obtain ⟨v1, v2⟩ := hv _ hm
 unfold JR
 rw [e]
 simp [H8, v1, v2]
 simp [List.getD_eq_getElem?_getD] at v1 v2
 omega
theorem A3o {vals : Int} {locs : List ByteArray} {rg : List (List ByteArray)} {ns : List Ax} (h : Thr vals locs rg rg.length ns) (v2 : 2 ≤ vals) (v4 : vals ≤ 4) (l4 : locs.length ≤ 4) (ln : locs.Nodup) (n64 : ns.length ≤ 64) (r1 : 1 ≤ rg.length) (r4 : rg.length ≤ 4) (rl : ∀ l ∈ rg, l.length ≤ 4 ∧ l.Nodup) : Aj (TT vals locs rg ns) where
 v2 := v2
 v4 := v4
 l4 := l4
 ln := ln
 n64 := n64
 r1 := r1
 r4 := r4
 rl := rl
 first := h.1
 thr := h.2
end Go.AM

namespace Go.AM
open Go Go.Proofs
structure W3 (t : A4) (m : Nat) : Prop where
 thr : 0 ≤ (t.at m).thread
 up0 : -1 ≤ (t.at m).up
 up : (t.at m).up < m
 loc : (t.at m).kind = 2 ∨ (t.at m).kind = 3 → Jt t (t.at m).loc = true
 rmw : (t.at m).rmw = true → 0 ≤ (t.at m).up ∧ (t.at (t.at m).up.toNat).kind = 2
 par : 0 ≤ (t.at m).up → (t.at (t.at m).up.toNat).thread = (t.at m).thread
theorem Vg {t : A4} {a u : Nat} (h : BE t a u = true) : (t.at a).up = u ∧ (t.at a).thread = (t.at u).thread := by
 simp only [BE, Bool.and_eq_true, decide_eq_true_eq] at h
 exact ⟨h.1.2, h.2⟩
theorem A3n {t : A4} {u : Nat} (h : DD t u = true) : (t.at (u + 1)).kind = 2 ∨ (t.at (u + 1)).kind = 3 → Jt t (t.at (u + 1)).loc = true := by
 simp only [DD, Bool.or_eq_true, Bool.and_eq_true, decide_eq_true_eq] at h
 rcases h with h | h
 ·intro k; have := h.1.1.1.1.1; omega
 ·intro _; exact h.1.1.2
theorem A31 {t : A4} {u : Nat} (h : DD t u = true) (hr : (t.at (u + 1)).rmw = true) : (t.at u).kind = 2 := by
 simp only [DD, hr, Bool.or_eq_true, Bool.and_eq_true, decide_eq_true_eq, if_true, Bool.not_true] at h
 rcases h with h | h
 ·have := h.1.1.2; cases this
 ·exact h.2.1.1.2
theorem Lk {k : Nat → Nat} {m : Nat} : ∀ n : Nat, k 0 ≤ m → m < k n → ∃ v, v < n ∧ k v ≤ m ∧ m < k (v + 1) := by
 intro n
 induction n with
 | zero => intro h1 h2; omega
 | succ n ih =>
  intro h1 h2
  by_cases c : m < k n
  ·obtain ⟨v, a, b, d⟩ := ih h1 c
   exact ⟨v, by omega, b, d⟩
  ·exact ⟨n, by omega, by omega, h2⟩
theorem KC.good {t : A4} : ∀ {n u e : Nat}, KC t n u e → ∀ m, u < m → m < e → W3 t m := by
 intro n
 induction n with
 | zero => intro u e h; exact absurd h (by simp [KC])
 | succ n ih =>
  intro u e h m h1 h2
  obtain ⟨⟨_, ht, _⟩, h⟩ := h
  rcases h with ⟨_, _, rfl⟩ | ⟨c, _, _, al, hb⟩ | ⟨c, _, _, vals, k, loc, mode, _, _, hk0, hke, hloc, hs, _⟩
  ·omega
  ·by_cases e1 : m = u + 1
   ·subst e1
    obtain ⟨p, q⟩ := Vg c
    exact ⟨by omega, by omega, by omega, A3n al, fun hr => ⟨by omega, by rw [p, Int.toNat_natCast]; exact A31 al hr⟩, fun _ => by rw [p, Int.toNat_natCast]; exact q.symm⟩
   ·exact ih hb m (by omega) h2
  ·obtain ⟨v, hv, a, b⟩ := Lk (k := k) (m := m) vals (by omega) (by omega)
   obtain ⟨s1, s2, s3⟩ := hs v hv
   by_cases e1 : m = k v
   ·subst e1
    obtain ⟨p, q⟩ := Vg s1
    simp only [EX, Bool.and_eq_true, decide_eq_true_eq] at s2
    exact ⟨by omega, by omega, by omega, fun _ => by rw [s2.1.1.2]; exact hloc, fun hr => by rw [hr] at s2; simp at s2, fun _ => by rw [p, Int.toNat_natCast]; exact q.symm⟩
   ·exact ih s3 m (by omega) b
theorem Aj.good {t : A4} (h : Aj t) (m : Nat) (h1 : t.locs.length ≤ m) (h2 : m < t.nodes.length) : W3 t m := by
 obtain ⟨s, h0, he, hs⟩ := h.thr
 obtain ⟨v, hv, a, b⟩ := Lk (k := s) (m := m) t.regs.length (by omega) (by omega)
 obtain ⟨hb, n, hn⟩ := hs v hv
 by_cases e1 : m = s v
 ·subst e1
  simp only [Gu, Bool.and_eq_true, decide_eq_true_eq] at hb
  have k1 := hb.1.1.1.1.2
  have k3 := hb.1.1.1.1.1.2
  have k4 := hb.2
  exact ⟨by omega, by omega, by omega, fun k => by omega, fun hr => by simp_all, fun h0 => by omega⟩
 ·exact hn.good m (by omega) b
structure A5y (t : A4) (i : Nat) : Prop where
 thr : (t.at i).thread = -1
 up : (t.at i).up = -1
 kind : (t.at i).kind = 3
 loc : (t.at i).loc = i
theorem Aj.init {t : A4} (h : Aj t) (i : Nat) (hi : i < t.locs.length) : A5y t i := by
 have := h.first.2 i hi
 simp only [JR, Bool.and_eq_true, decide_eq_true_eq] at this
 obtain ⟨⟨⟨⟨⟨⟨⟨⟨a, b⟩, c⟩, d⟩, _⟩, _⟩, _⟩, _⟩, _⟩ := this
 exact ⟨a, b, c, d⟩
theorem Aj.up {t : A4} (h : Aj t) : KQ t := by
 intro i hi
 by_cases c : i < t.locs.length
 ·rw [(h.init i c).up]; omega
 ·exact (h.good i (by omega) hi).up
theorem Aj.wloc {t : A4} (h : Aj t) {m : Nat} (hm : m < t.nodes.length) (hk : (t.at m).kind = 2 ∨ (t.at m).kind = 3) : 0 ≤ (t.at m).loc ∧ (t.at m).loc < t.locs.length := by
 by_cases c : m < t.locs.length
 ·rw [(h.init m c).loc]; omega
 ·have := (h.good m (by omega) hm).loc hk
  simp only [Jt, Bool.and_eq_true, decide_eq_true_eq] at this
  exact this
end Go.AM

namespace Go.AM
open Go Go.Proofs
def SF (t : A4) : Nat → Nat → Int
 | 0, _ => 0
 | n + 1, i => if (t.at i).up < 0 then 0 else SF t n (t.at i).up.toNat + 1
def TZ (t : A4) : Nat → Nat → BitVec 64
 | 0, _ => 0#64
 | n + 1, i => if (t.at i).up < 0 then 0#64 else TZ t n (t.at i).up.toNat ||| CX (t.at i).up
def NS (t : A4) (i : Nat) : Int := SF t (i + 1) i
def ovr (t : A4) (i : Nat) : BitVec 64 := TZ t (i + 1) i
theorem A2H {t : A4} (h : KQ t) : ∀ (n i : Nat), i < n → i < t.nodes.length → SF t (n + 1) i = SF t n i := by
 intro n
 induction n with
 | zero => intro i hi; omega
 | succ n ih =>
  intro i hi hl
  rw [SF]
  conv => rhs; rw [SF]
  by_cases c : (t.at i).up < 0
  ·rw [if_pos c, if_pos c]
  ·rw [if_neg c, if_neg c]
   have := h i hl
   rw [ih _ (by omega) (by omega)]
theorem A2u {t : A4} (h : KQ t) : ∀ (n i : Nat), i < n → i < t.nodes.length → TZ t (n + 1) i = TZ t n i := by
 intro n
 induction n with
 | zero => intro i hi; omega
 | succ n ih =>
  intro i hi hl
  rw [TZ]
  conv => rhs; rw [TZ]
  by_cases c : (t.at i).up < 0
  ·rw [if_pos c, if_pos c]
  ·rw [if_neg c, if_neg c]
   have := h i hl
   rw [ih _ (by omega) (by omega)]
theorem A8n {t : A4} (h : KQ t) {i : Nat} (hl : i < t.nodes.length) : ∀ k, SF t (i + 1 + k) i = NS t i := by
 intro k
 induction k with
 | zero => rfl
 | succ k ih => rw [← ih]; exact A2H h (i + 1 + k) i (by omega) hl
theorem A7B {t : A4} (h : KQ t) {i : Nat} (hl : i < t.nodes.length) : ∀ k, TZ t (i + 1 + k) i = ovr t i := by
 intro k
 induction k with
 | zero => rfl
 | succ k ih => rw [← ih]; exact A2u h (i + 1 + k) i (by omega) hl
theorem YB {t : A4} (h : KQ t) {i u : Nat} (hl : i < t.nodes.length) (hu : (t.at i).up = u) : NS t i = NS t u + 1 := by
 have := h i hl
 rw [NS, SF, if_neg (by omega), hu, Int.toNat_natCast, ← A8n h (by omega) (i - (u + 1))]
 rw [show u + 1 + (i - (u + 1)) = i by omega]
theorem A5h {t : A4} (h : KQ t) {i u : Nat} (hl : i < t.nodes.length) (hu : (t.at i).up = u) : ovr t i = ovr t u ||| CX u := by
 have := h i hl
 rw [ovr, TZ, if_neg (by omega), hu, Int.toNat_natCast, ← A7B h (by omega) (i - (u + 1))]
 rw [show u + 1 + (i - (u + 1)) = i by omega]
theorem A5t {t : A4} {i : Nat} (hu : (t.at i).up < 0) : NS t i = 0 := by rw [NS, SF, if_pos hu]
theorem A4A {t : A4} {i : Nat} (hu : (t.at i).up < 0) : ovr t i = 0#64 := by rw [ovr, TZ, if_pos hu]
theorem Wj {t : A4} (h : KQ t) (a : Int) {x : Int} (hx : x < t.nodes.length) : Kh t a t.nodes.length x = if x < 0 then false else if x = a then true else Kh t a t.nodes.length (t.at x.toNat).up := by
 rw [← RK h a t.nodes.length x hx hx, Kh]
theorem A8h (s r : BitVec 64) (x : Int) : Ck (s ||| r) x = (Ck s x || Ck r x) := by
 unfold Ck
 rw [BitVec.getLsbD_or]
 cases decide (0 ≤ x) <;> simp
theorem A6G (i : Nat) (x : Nat) (hx : x < 64) : Ck (CX i) (x : Int) = decide (x = i) := by
 rw [B7, CR]
 by_cases c : x = i
 ·rw [decide_eq_true c, decide_eq_true (by omega)]
 ·rw [decide_eq_false c, decide_eq_false (by omega)]
theorem Wx {t : A4} (h : KQ t) {a : Nat} (ha : a < 64) : ∀ (n b : Nat), b < n → b < t.nodes.length → Ck (ovr t b) a = BA t a b ∧ (BA t a b = true → NS t a < NS t b) := by
 intro n
 induction n with
 | zero => intro b hb; omega
 | succ n ih =>
  intro b hb hl
  have hup := h b hl
  unfold BA
  by_cases c : (t.at b).up < 0
  ·rw [A4A c, Wj h a (by omega), if_pos c]
   exact ⟨by simp [Ck], fun h => by cases h⟩
  ·obtain ⟨u, hu⟩ := Int.eq_ofNat_of_zero_le (show 0 ≤ (t.at b).up by omega)
   have hub : u < b := by omega
   obtain ⟨i1, i2⟩ := ih u (by omega) (by omega)
   unfold BA at i1 i2
   rw [A5h h hl hu, YB h hl hu, hu, Wj h a (by omega), if_neg (by omega), A8h, A6G _ _ ha, i1, Int.toNat_natCast]
   by_cases e : a = u
   ·subst e
    rw [if_pos rfl]
    exact ⟨by simp, fun _ => by omega⟩
   ·rw [if_neg (by omega), decide_eq_false e, Bool.or_false]
    exact ⟨rfl, fun h => by have := i2 h; omega⟩
theorem AaI {t : A4} (h : KQ t) : ∀ (n i : Nat), i < n → i < t.nodes.length → 0 ≤ NS t i ∧ NS t i ≤ i := by
 intro n
 induction n with
 | zero => intro i hi; omega
 | succ n ih =>
  intro i hi hl
  have hup := h i hl
  by_cases c : (t.at i).up < 0
  ·rw [A5t c]; omega
  ·obtain ⟨u, hu⟩ := Int.eq_ofNat_of_zero_le (show 0 ≤ (t.at i).up by omega)
   have := ih u (by omega) (by omega)
   rw [YB h hl hu]
   omega
def AaK (t : A4) : List Int := (List.range t.nodes.length).map (NS t)
def Abd (t : A4) : List (BitVec 64) := (List.range t.nodes.length).map (ovr t)
theorem LO {t : A4} {i : Nat} (h : i < t.nodes.length) : (AaK t)[i]? = some (NS t i) := by simp [AaK, h]
theorem A65 {t : A4} {i : Nat} (h : i < t.nodes.length) : (Abd t)[i]? = some (ovr t i) := by simp [Abd, h]
theorem SU {t : A4} (h : KQ t) (hn : t.nodes.length ≤ 64) {a b : Nat} (ha : a < t.nodes.length) (hb : b < t.nodes.length) : (decide (NS t a < NS t b) && Ck (ovr t b) a) = BA t a b := by
 obtain ⟨h1, h2⟩ := Wx h (a := a) (by omega) (b + 1) b (by omega) hb
 rw [h1]
 cases c : BA t a b with
 | false => simp
 | true => rw [decide_eq_true (h2 c)]; rfl
theorem A2m {α : Type} {n k j : Nat} {f : Nat → α} {z : α} (h : j < k) (hn : j < n) : (CD n k f z)[j]? = some (f j) := by
 simp [CD, hn, h]
theorem Rx {α : Type} {n k : Nat} {f : Nat → α} {z : α} (h : f k = z) : CD n k f z = CD n (k + 1) f z := by
 unfold CD
 apply List.map_congr_left
 intro j hj
 by_cases e : j = k
 ·subst e; rw [if_neg (by omega), if_pos (by omega), h]
 ·by_cases c : j < k
  ·rw [if_pos c, if_pos (by omega)]
  ·rw [if_neg c, if_neg (by omega)]
end Go.AM

namespace Go.AM
open Go Go.Proofs
theorem A6x (j : Nat) (hj : j < 64) : ∀ (l : List Int) (s : BitVec 64), (l.foldl (fun s i => s ||| CX i) s).getLsbD j = (s.getLsbD j || BB l (j : Int)) := by
 intro l
 induction l with
 | nil => intro s; simp [BB]
 | cons x l ih =>
  intro s
  rw [List.foldl_cons, ih, BitVec.getLsbD_or, CR]
  have e : BB (x :: l) (j : Int) = (decide ((j : Int) = x) || BB l (j : Int)) := rfl
  have e2 : decide ((j : Int) = x ∧ j < 64) = decide ((j : Int) = x) := by
   by_cases c : (j : Int) = x <;> simp [c, hj]
  rw [e, e2, Bool.or_assoc]
theorem U5 (l : List Int) {x : Int} (h0 : 0 ≤ x) (h1 : x < 64) : Ck (D6 l) x = BB l x := by
 obtain ⟨j, rfl⟩ := Int.eq_ofNat_of_zero_le h0
 rw [B7, D6, A6x j (by omega)]
 simp
theorem Hi {s : BitVec 64} {x : Int} (h : Ck s x = true) : 0 ≤ x ∧ x < 64 := by
 simp only [Ck, Bool.and_eq_true, decide_eq_true_eq] at h
 have := BitVec.lt_of_getLsbD h.2
 omega
/-- The numbers of a list that are nodes of a small tree. -/
def CI (t : A4) (l : List Int) : Prop := ∀ n ∈ l, Ch t n = true
theorem CI.has {t : A4} (ht : t.nodes.length ≤ 64) {l : List Int} (h : CI t l) (x : Int) : Ck (D6 l) x = BB l x := by
 by_cases c : 0 ≤ x ∧ x < 64
 ·exact U5 l c.1 c.2
 ·have e1 : Ck (D6 l) x = false := by
   rw [← Bool.not_eq_true]
   exact fun h => c (Hi h)
  have e2 : BB l x = false := by
   rw [← Bool.not_eq_true]
   intro h'
   obtain ⟨m, rfl, hm⟩ := Aq (h x (Ag.1 h'))
   exact c ⟨by omega, by omega⟩
  rw [e1, e2]
def B4 (t : A4) (has : List Int) (n loc : Int) : Bool := BB has n && JH t n loc
def DG (t : A4) (l has : List Int) (loc : Int) (i : Nat) : Bool :=
 B4 t has (l.getD i 0) loc && decide (0 ≤ (t.at (l.getD i 0).toNat).thread) && CS l i && (!decide (1 < l.length) || Cu (t.at (l.getD i 0).toNat)) && (decide (i = 0) || (l.take i).all fun m => AH t (l.getD i 0) m)
def DZ (t : A4) (l has : List Int) (loc : Int) : Bool := (List.range l.length).all (DG t l has loc) && decide (0 < l.length)
theorem Jv {l : List Int} {p : Int → Bool} : ∀ i, i ≤ l.length → (l.take i).all p = (List.range i).all fun k => p (l.getD k 0) := by
 intro i
 induction i with
 | zero => intro _; rfl
 | succ i ih =>
  intro h
  have hi : i < l.length := by omega
  have e := List.take_succ_eq_append_getElem hi
  have e2 : l.getD i 0 = l[i] := by rw [List.getD_eq_getElem?_getD, List.getElem?_eq_getElem hi]; rfl
  rw [e, List.all_append, ih (by omega), List.range_succ, List.all_append, ← e2]
  simp
theorem A3g (t : A4) (l has : List Int) (loc : Int) : DZ t l has loc = Db t l has loc := by
 rw [Bool.eq_iff_iff]
 simp only [DZ, Db, Bool.and_eq_true, Bool.not_eq_true', decide_eq_true_eq, decide_eq_false_iff_not, Av]
 constructor
 ·rintro ⟨h1, h2⟩
  refine ⟨by omega, fun i hi => ?_⟩
  have := h1 i hi
  simp only [DG, B4, Bool.and_eq_true, Bool.or_eq_true, decide_eq_true_eq] at this
  obtain ⟨⟨⟨⟨⟨a, b⟩, c⟩, d⟩, e⟩, f⟩ := this
  simp only [By, Bool.and_eq_true, decide_eq_true_eq]
  refine ⟨⟨⟨⟨a, d⟩, b⟩, c⟩, ?_⟩
  rw [← Jv (p := fun m => AH t (l.getD i 0) m) i (by omega)]
  rcases f with rfl | f
  ·rfl
  ·exact f
 ·rintro ⟨h1, h2⟩
  refine ⟨fun i hi => ?_, by omega⟩
  have hp : 1 < l.length → Cu (t.at (l.getD i 0).toNat) = true := by
   intro hl
   by_cases i0 : i = 0
   ·subst i0
    have := h2 1 hl
    simp only [By, Bool.and_eq_true, Av] at this
    have := this.2 0 (by omega)
    simp only [AH, Bool.and_eq_true] at this
    exact this.1.1.2
   ·have := h2 i hi
    simp only [By, Bool.and_eq_true, Av] at this
    have := this.2 0 (by omega)
    simp only [AH, Bool.and_eq_true] at this
    exact this.1.1.1
  have := h2 i hi
  simp only [By, Bool.and_eq_true, decide_eq_true_eq] at this
  obtain ⟨⟨⟨⟨a, d⟩, b⟩, c⟩, f⟩ := this
  simp only [DG, B4, Bool.and_eq_true, Bool.or_eq_true, decide_eq_true_eq, Bool.not_eq_true', decide_eq_false_iff_not]
  refine ⟨⟨⟨⟨⟨a, b⟩, c⟩, d⟩, ?_⟩, .inr ?_⟩
  ·by_cases hl : 1 < l.length
   ·exact .inr (hp hl)
   ·exact .inl hl
  ·rw [Jv (p := fun m => AH t (l.getD i 0) m) i (by omega)]; exact f
/-- A location's writes, as they stand. -/
def Ke (m : List (List Int)) (loc : Nat) : List Int := (loc : Int) :: (m.drop 1).flatten
def Ey (t : A4) (s : A9) (loc : Nat) : Nat := (s.has.filter fun n => B4 t s.has n loc).length
def Ks (t : A4) (s : A9) (loc : Nat) : Bool :=
 let m := s.mo.getD loc []
 !decide (m.length = 0) && decide (m.getD 0 [] = [(loc : Int)]) && (m.drop 1).all (fun c => DZ t c s.has loc) && decide ((Ke m loc).length = Ey t s loc) && decide ((BO (D6 (Ke m loc))).length = Ey t s loc)
def DH (t : A4) (s : A9) : Bool := decide (s.mo.length = t.locs.length) && (List.range s.mo.length).all (Ks t s)
def KB (t : A4) (s : A9) : Bool := decide (s.jf.length = s.has.length) && (List.range s.has.length).all (Gz t s)
end Go.AM

namespace Go.AM
open Go Go.Proofs
theorem Ln : ∀ (l m : List Int), l.Nodup → (∀ x ∈ l, x ∈ m) → l.length ≤ m.length := by
 intro l
 induction l with
 | nil => intro m _ _; simp
 | cons x l ih =>
  intro m hn hs
  have hx := hs x List.mem_cons_self
  have h1 : x ∉ l := (List.nodup_cons.1 hn).1
  have := ih (m.erase x) (List.nodup_cons.1 hn).2 fun y hy => by
   have : y ≠ x := fun e => h1 (e ▸ hy)
   exact (List.mem_erase_of_ne this).2 (hs y (List.mem_cons_of_mem _ hy))
  rw [List.length_erase_of_mem hx] at this
  have : 0 < m.length := List.length_pos_of_mem hx
  simp only [List.length_cons]
  omega
theorem AbI {l m : List Int} (hn : l.Nodup) (hs : ∀ x ∈ l, x ∈ m) (hl : m.length ≤ l.length) : ∀ x ∈ m, x ∈ l := by
 intro x hx
 refine Classical.byContradiction fun hc => ?_
 have := Ln l (m.erase x) hn fun y hy => (List.mem_erase_of_ne fun (e : y = x) => hc (e ▸ hy)).2 (hs y hy)
 rw [List.length_erase_of_mem hx] at this
 have : 0 < m.length := List.length_pos_of_mem hx
 omega
theorem AeP : ∀ (l S : List Int), S.Nodup → (∀ x ∈ S, x ∈ l) → l.length ≤ S.length → l.Nodup := by
 intro l
 induction l with
 | nil => intro S _ _ _; exact List.nodup_nil
 | cons x l ih =>
  intro S hn hs hl
  by_cases hx : x ∈ l
  ·have := Ln S l hn fun y hy => by
    rcases List.mem_cons.1 (hs y hy) with rfl | h
    ·exact hx
    ·exact h
   simp only [List.length_cons] at hl
   omega
  ·refine List.nodup_cons.2 ⟨hx, ih (S.erase x) (hn.erase x) (fun y hy => ?_) ?_⟩
   ·rcases List.mem_cons.1 (hs y (List.mem_of_mem_erase hy)) with rfl | h
    ·exact absurd hy (List.Nodup.not_mem_erase hn)
    ·exact h
   ·rw [List.length_erase]
    simp only [List.length_cons] at hl
    split <;> omega
theorem Rv (n : Int) : ∀ (m : List (List Int)), (∀ c ∈ m, c.Nodup) → (m.filter fun c => BB c n).length = m.flatten.count n := by
 intro m
 induction m with
 | nil => intro _; rfl
 | cons c m ih =>
  intro h
  have h1 := h c List.mem_cons_self
  have h2 := ih fun d hd => h d (List.mem_cons_of_mem _ hd)
  rw [List.flatten_cons, List.count_append, ← h2, List.filter_cons]
  cases e : BB c n with
  | true =>
   have hm : n ∈ c := Ag.1 e
   have := List.nodup_iff_count.1 h1 n
   have : 0 < c.count n := List.count_pos_iff.2 hm
   rw [if_pos rfl, List.length_cons]
   omega
  | false =>
   have hm : n ∉ c := fun h => by rw [Ag.2 h] at e; cases e
   rw [List.count_eq_zero_of_not_mem hm]
   simp
theorem Abv {l : List Int} (h : ∀ i, i < l.length → CS l i = true) : ∀ j, j < l.length → ∀ i, i < j → l.getD i 0 < l.getD j 0 := by
 intro j
 induction j with
 | zero => intro _ i hi; omega
 | succ j ih =>
  intro hj i hi
  have h1 := h (j + 1) hj
  simp only [CS, Bool.or_eq_true, decide_eq_true_eq, Nat.add_sub_cancel] at h1
  have h2 : l.getD j 0 < l.getD (j + 1) 0 := by
   rcases h1 with h1 | h1
   ·omega
   ·exact h1
  by_cases e : i = j
  ·subst e; exact h2
  ·have := ih (by omega) i (by omega); omega
theorem K8 {l : List Int} (h : ∀ i, i < l.length → CS l i = true) : l.Nodup := by
 rw [List.nodup_iff_pairwise_ne, List.pairwise_iff_getElem]
 intro i j hi hj hij e
 have := Abv h j hj i hij
 rw [List.getD_eq_getElem?_getD, List.getElem?_eq_getElem hi, List.getD_eq_getElem?_getD, List.getElem?_eq_getElem hj, Option.getD_some, Option.getD_some, e] at this
 omega
theorem Wa (w : BitVec 64) : (BO w).Nodup := List.Nodup.sublist List.filter_sublist List.nodup_range
/-- The set of a list of small numbers, as a list. -/
theorem A7b {t : A4} (h64 : t.nodes.length ≤ 64) {l : List Int} (h : CI t l) (x : Int) : x ∈ (BO (D6 l)).map (fun (j : Nat) => (j : Int)) ↔ x ∈ l := by
 constructor
 ·intro hx
  obtain ⟨j, hj, rfl⟩ := List.mem_map.1 hx
  obtain ⟨j1, j2⟩ := Pp hj
  have := h.has h64 (j : Int)
  rw [B7, j2] at this
  exact Ag.1 this.symm
 ·intro hx
  obtain ⟨m, rfl, hm⟩ := Aq (h x hx)
  refine List.mem_map.2 ⟨m, JT.2 ?_, rfl⟩
  have := h.has h64 (m : Int)
  rw [B7, Ag.2 hx] at this
  exact this
theorem A01 (w : BitVec 64) : ((BO w).map fun (j : Nat) => (j : Int)).Nodup := by
 rw [List.nodup_iff_pairwise_ne, List.pairwise_map]
 have := List.nodup_iff_pairwise_ne.1 (Wa w)
 exact this.imp fun h e => h (by omega)
/-- All stand once, said in two ways. -/
theorem A6y {t : A4} (h64 : t.nodes.length ≤ 64) {all W : List Int} (ha : CI t all) (hw : W.Nodup) (hs : ∀ x ∈ all, x ∈ W) :
  (all.length = W.length ∧ (BO (D6 all)).length = W.length) ↔ ∀ n ∈ W, all.count n = 1 := by
 have hS := A01 (D6 all)
 have hm := fun x => A7b h64 ha x
 have hl : ((BO (D6 all)).map fun (j : Nat) => (j : Int)).length = (BO (D6 all)).length := List.length_map ..
 generalize ((BO (D6 all)).map fun (j : Nat) => (j : Int)) = S at *
 rw [← hl]
 constructor
 ·rintro ⟨h1, h2⟩ n hn
  have nd := AeP all S hS (fun x hx => (hm x).1 hx) (by omega)
  have hmem := AbI nd hs (by omega) n hn
  have c1 := List.nodup_iff_count.1 nd n
  have c2 : 0 < all.count n := List.count_pos_iff.2 hmem
  omega
 ·intro h
  have nd : all.Nodup := by
   rw [List.nodup_iff_count]
   intro x
   by_cases hx : x ∈ all
   ·rw [h x (hs x hx)]; exact Nat.le_refl _
   ·rw [List.count_eq_zero_of_not_mem hx]; omega
  have hmem : ∀ x ∈ W, x ∈ all := fun x hx => List.count_pos_iff.1 (by rw [h x hx]; decide)
  have a1 := Ln all W nd hs
  have a2 := Ln W all hw hmem
  have a3 := Ln all S nd fun x hx => (hm x).2 hx
  have a4 := Ln S all hS fun x hx => (hm x).1 hx
  omega
end Go.AM

namespace Go.AM
open Go Go.Proofs
theorem LS {t : A4} {l : List Int} (h : BT t l = true) : CI t l ∧ l.Nodup ∧ (L5 t ||| D6 l = D6 l) := by
 simp only [BT, Bool.and_eq_true, decide_eq_true_eq] at h
 have hr := Av.1 h.1
 refine ⟨fun n hn => ?_, K8 fun i hi => ?_, h.2⟩
 ·obtain ⟨k, hk, rfl⟩ := List.mem_iff_getElem.1 hn
  have := hr k hk
  simp only [BR, Bool.and_eq_true] at this
  have := this.1.1
  rw [List.getD_eq_getElem?_getD, List.getElem?_eq_getElem hk] at this
  exact this
 ·have := hr i hi
  simp only [BR, Bool.and_eq_true] at this
  exact this.1.2
theorem A7W {t : A4} (ht : Aj t) {l : List Int} (h : BT t l = true) {k : Nat} (hk : k < t.locs.length) : (k : Int) ∈ l := by
 obtain ⟨hn, _, hi⟩ := LS h
 have hkn : k < t.nodes.length := Nat.lt_of_lt_of_le hk ht.first.1
 have h64 := ht.n64
 have e : (L5 t).getLsbD k = true := by
  unfold L5
  rw [AF, decide_eq_true hkn, (ht.init k hk).up, decide_eq_true (show k < 64 by omega)]; rfl
 have e2 : (D6 l).getLsbD k = true := by rw [← hi, BitVec.getLsbD_or, e]; rfl
 have := hn.has h64 (k : Int)
 rw [B7, e2] at this
 exact Ag.1 this.symm
theorem T6 {t : A4} {l has : List Int} {loc : Int} (h : Db t l has loc = true) : l.Nodup ∧ ∀ n ∈ l, B4 t has n loc = true := by
 simp only [Db, Bool.and_eq_true] at h
 have hr := Av.1 h.2
 refine ⟨K8 fun i hi => ?_, fun n hn => ?_⟩
 ·have := hr i hi
  simp only [By, Bool.and_eq_true] at this
  exact this.1.1.1.2
 ·obtain ⟨k, hk, rfl⟩ := List.mem_iff_getElem.1 hn
  have := hr k hk
  simp only [By, Bool.and_eq_true] at this
  have h1 := this.1.1.1.1
  have h2 := this.1.1.2
  rw [List.getD_eq_getElem?_getD, List.getElem?_eq_getElem hk, Option.getD_some] at h1 h2
  simp only [B4, Bool.and_eq_true]
  exact ⟨h1, h2⟩
theorem WU {t : A4} {s : A9} {k : Nat} : J1 t s k = true ↔ ∃ D, s.mo.getD k [] = [(k : Int)] :: D ∧ ∀ c ∈ D, Db t c s.has k = true := by
 simp only [J1, Bool.and_eq_true, Bool.not_eq_true', decide_eq_false_iff_not, decide_eq_true_eq, Av, Bool.or_eq_true]
 generalize s.mo.getD k [] = m
 constructor
 ·rintro ⟨⟨h1, h2⟩, h3⟩
  rcases m with _ | ⟨c, D⟩
  ·simp at h1
  ·refine ⟨D, by rw [show c = [(k : Int)] from h2], fun d hd => ?_⟩
   obtain ⟨j, hj, rfl⟩ := List.mem_iff_getElem.1 hd
   have := h3 (j + 1) (by simp; omega)
   rcases this with h | h
   ·omega
   ·simpa [List.getD_eq_getElem?_getD, hj] using h
 ·rintro ⟨D, rfl, h⟩
  refine ⟨⟨by simp, rfl⟩, fun i hi => ?_⟩
  rcases i with _ | i
  ·exact .inl rfl
  ·refine .inr ?_
   have hi' : i < D.length := by simpa using hi
   have := h D[i] (List.getElem_mem hi')
   simpa [List.getD_eq_getElem?_getD, hi'] using this
theorem P8 {t : A4} {s : A9} {k : Nat} : Ks t s k = true ↔ ∃ D, s.mo.getD k [] = [(k : Int)] :: D ∧ (∀ c ∈ D, Db t c s.has k = true) ∧ ((s.mo.getD k []).flatten.length = Ey t s k ∧ (BO (D6 (s.mo.getD k []).flatten)).length = Ey t s k) := by
 simp only [Ks, Bool.and_eq_true, Bool.not_eq_true', decide_eq_false_iff_not, decide_eq_true_eq, List.all_eq_true, A3g]
 generalize s.mo.getD k [] = m
 constructor
 ·rintro ⟨⟨⟨⟨h1, h2⟩, h3⟩, h4⟩, h5⟩
  rcases m with _ | ⟨c, D⟩
  ·simp at h1
  ·have e : c = [(k : Int)] := h2
   subst e
   exact ⟨D, rfl, h3, h4, h5⟩
 ·rintro ⟨D, rfl, h3, h4, h5⟩
  exact ⟨⟨⟨⟨by simp, rfl⟩, h3⟩, h4⟩, h5⟩
theorem A10 {t : A4} (ht : Aj t) {s : A9} (hn : BT t s.has = true) {i : Nat} (hi : i < s.has.length) : LG t s i = true ↔ ((t.at (s.has.getD i 0).toNat).kind = 3 → ((s.mo.getD (t.at (s.has.getD i 0).toNat).loc.toNat []).filter fun c => BB c (s.has.getD i 0)).length = 1) := by
 simp only [LG, Bool.or_eq_true, Bool.not_eq_true', decide_eq_false_iff_not, decide_eq_true_eq]
 constructor
 ·rintro (h | h) k
  ·exact absurd k h
  ·exact h
 ·intro h
  by_cases k : (t.at (s.has.getD i 0).toNat).kind = 3
  ·exact .inr (h k)
  ·exact .inl k
theorem Ab7 (t : A4) (ht : Aj t) (s : A9) : (BT t s.has && KB t s && DH t s) = Bq t s := by
 cases hn : BT t s.has with
 | false => simp [Bq, hn]
 | true =>
 obtain ⟨hN, hnd, _⟩ := LS hn
 have h64 := ht.n64
 by_cases hm : ¬ s.mo.length = t.locs.length
 ·simp [Bq, DH, hm]
 have hm := Decidable.not_not.1 hm
 rw [Bool.eq_iff_iff]
 simp only [Bq, DH, KB, hn, decide_eq_true hm, Bool.true_and, Bool.and_true, Bool.and_eq_true, decide_eq_true_eq]
 have key : (∀ k, k < s.mo.length → Ks t s k = true) ↔ ((∀ k, k < s.mo.length → J1 t s k = true) ∧ ∀ i, i < s.has.length → LG t s i = true) := by
  have W : ∀ k, k < s.mo.length → ∀ D, s.mo.getD k [] = [(k : Int)] :: D → (∀ c ∈ D, Db t c s.has k = true) →
    (((s.mo.getD k []).flatten.length = Ey t s k ∧ (BO (D6 (s.mo.getD k []).flatten)).length = Ey t s k) ↔ ∀ n ∈ s.has, B4 t s.has n k = true → ((s.mo.getD k []).filter fun c => BB c n).length = 1) := by
   intro k hk D hD hc
   have hk' : k < t.locs.length := by omega
   have hin := A7W ht hn hk'
   have hwk : B4 t s.has k k = true := by
    simp only [B4, JH, Bool.and_eq_true, decide_eq_true_eq, Int.toNat_natCast]
    exact ⟨Ag.2 hin, (ht.init k hk').kind, (ht.init k hk').loc⟩
   have hcw : ∀ c ∈ s.mo.getD k [], c.Nodup ∧ ∀ n ∈ c, B4 t s.has n k = true := by
    intro c hcm
    rw [hD] at hcm
    rcases List.mem_cons.1 hcm with rfl | h
    ·refine ⟨by simp, fun n hn => ?_⟩
     rw [List.mem_singleton.1 hn]; exact hwk
    ·exact T6 (hc c h)
   have hsub : ∀ x ∈ (s.mo.getD k []).flatten, x ∈ s.has.filter fun n => B4 t s.has n k := by
    intro x hx
    obtain ⟨c, hc1, hc2⟩ := List.mem_flatten.1 hx
    have := (hcw c hc1).2 x hc2
    refine List.mem_filter.2 ⟨?_, this⟩
    simp only [B4, Bool.and_eq_true] at this
    exact Ag.1 this.1
   have hNa : CI t (s.mo.getD k []).flatten := fun x hx => hN x (List.mem_filter.1 (hsub x hx)).1
   have := A6y h64 (W := s.has.filter fun n => B4 t s.has n k) hNa (List.Nodup.sublist List.filter_sublist hnd) hsub
   rw [show Ey t s k = (s.has.filter fun n => B4 t s.has n k).length from rfl, this]
   constructor
   ·intro h n hn1 hn2
    rw [Rv n _ fun c hc => (hcw c hc).1]
    exact h n (List.mem_filter.2 ⟨hn1, hn2⟩)
   ·intro h n hn1
    obtain ⟨a, b⟩ := List.mem_filter.1 hn1
    rw [← Rv n _ fun c hc => (hcw c hc).1]
    exact h n a b
  constructor
  ·intro h
   refine ⟨fun k hk => ?_, fun i hi => ?_⟩
   ·obtain ⟨D, hD, hc, _⟩ := P8.1 (h k hk)
    exact WU.2 ⟨D, hD, hc⟩
   ·rw [A10 ht hn hi]
    intro k3
    have hmem : s.has.getD i 0 ∈ s.has := Au hi
    obtain ⟨m, hm1, hm2⟩ := Aq (hN _ hmem)
    rw [hm1, Int.toNat_natCast] at k3 ⊢
    obtain ⟨l1, l2⟩ := ht.wloc hm2 (.inr k3)
    obtain ⟨lc, hlc⟩ := Int.eq_ofNat_of_zero_le l1
    rw [hlc, Int.toNat_natCast]
    have hk : lc < s.mo.length := by omega
    obtain ⟨D, hD, hc, hl⟩ := P8.1 (h lc hk)
    refine (W lc hk D hD hc).1 hl m (hm1 ▸ hmem) ?_
    simp only [B4, JH, Bool.and_eq_true, decide_eq_true_eq, Int.toNat_natCast]
    exact ⟨Ag.2 (hm1 ▸ hmem), k3, hlc⟩
  ·rintro ⟨h1, h2⟩ k hk
   obtain ⟨D, hD, hc⟩ := WU.1 (h1 k hk)
   refine P8.2 ⟨D, hD, hc, (W k hk D hD hc).2 fun n hn1 hn2 => ?_⟩
   obtain ⟨i, hi, rfl⟩ := List.mem_iff_getElem.1 hn1
   have e : s.has.getD i 0 = s.has[i] := by rw [List.getD_eq_getElem?_getD, List.getElem?_eq_getElem hi]; rfl
   have := (A10 ht hn hi).1 (h2 i hi)
   rw [e] at this
   simp only [B4, JH, Bool.and_eq_true, decide_eq_true_eq] at hn2
   have h3 := this hn2.2.1
   rw [hn2.2.2, Int.toNat_natCast] at h3
   exact h3
 rw [Av, Av (n := s.mo.length), key, Av, Av]
 constructor
 ·rintro ⟨⟨a, b⟩, c, d⟩; exact ⟨⟨⟨a, b⟩, c⟩, d⟩
 ·rintro ⟨⟨⟨a, b⟩, c⟩, d⟩; exact ⟨⟨a, b⟩, c, d⟩
end Go.AM

namespace Go.AM
open Go Go.Proofs
/-- A relation of nodes, as rows. -/
def Bc (n : Nat) (p : Nat → Nat → Bool) : Rows := (List.range n).map fun a => Bw fun b => decide (b < n) && p a b
theorem Cx {n : Nat} {p : Nat → Nat → Bool} : (Bc n p).length = n := by simp [Bc]
theorem EO {n : Nat} {p : Nat → Nat → Bool} {a : Nat} (h : a < n) : (Bc n p)[a]? = some (Bw fun b => decide (b < n) && p a b) := by simp [Bc, h]
theorem VQ {n : Nat} {p : Nat → Nat → Bool} {a b : Nat} (hn : n ≤ 64) (h : a < n) (hb : b < n) : Ck ((Bc n p).getD a 0#64) (b : Int) = p a b := by
 rw [List.getD_eq_getElem?_getD, EO h, Option.getD_some, B7, AF, decide_eq_true hb, decide_eq_true (show b < 64 by omega)]
 simp
def Kd (t : A4) (x f : List Int) (i : Nat) : Bool :=
 if (t.at (x.getD i 0).toNat).kind = 2 then BB x (f.getD i 0) && JH t (f.getD i 0) (t.at (x.getD i 0).toNat).loc else decide (f.getD i 0 = -1)
def Cc (t : A4) (x : List Int) (i : Nat) : Bool := Ch t (x.getD i 0) && CS x i
def EZ (t : A4) (x f : List Int) : Bool := decide (x.length = f.length) && (List.range x.length).all (Cc t x) && (List.range x.length).all (Kd t x f)
def Jk (x f : List Int) (n : Int) : Int := if BB x n then f.getD (Hz x n).toNat 0 else -1
structure DR (t : A4) (x f : List Int) : Prop where
 len : x.length = f.length
 node : CI t x
 nd : x.Nodup
 at_ : ∀ i, i < x.length → Jk x f (x.getD i 0) = f.getD i 0
 read : ∀ n, n ∈ x → (t.at n.toNat).kind = 2 → Jk x f n ∈ x ∧ (t.at (Jk x f n).toNat).kind = 3 ∧ (t.at (Jk x f n).toNat).loc = (t.at n.toNat).loc
 none : ∀ n, n ∈ x → (t.at n.toNat).kind ≠ 2 → Jk x f n = -1
theorem A0x {x : List Int} (h : x.Nodup) {i : Nat} (hi : i < x.length) : Hz x (x.getD i 0) = i := by
 have hm : BB x (x.getD i 0) = true := Ag.2 (Au hi)
 obtain ⟨k, e, hk, h1, h2⟩ := EN hm
 rw [e]
 have : k = i := by
  rw [List.getD_eq_getElem?_getD, List.getD_eq_getElem?_getD, List.getElem?_eq_getElem hk, List.getElem?_eq_getElem hi] at h1
  rw [Option.getD_some, Option.getD_some] at h1
  rcases Nat.lt_trichotomy k i with c | c | c
  ·exact absurd h1 (List.pairwise_iff_getElem.1 h k i hk hi c)
  ·exact c
  ·exact absurd h1.symm (List.pairwise_iff_getElem.1 h i k hi hk c)
 rw [this]
theorem LX {t : A4} {x f : List Int} (h : EZ t x f = true) : DR t x f := by
 simp only [EZ, Bool.and_eq_true, decide_eq_true_eq, Av, Cc] at h
 obtain ⟨⟨h1, h2⟩, h3⟩ := h
 have hnode : CI t x := by
  intro n hn
  obtain ⟨i, hi, rfl⟩ := List.getElem_of_mem hn
  have := (h2 i hi).1
  rwa [List.getD_eq_getElem?_getD, List.getElem?_eq_getElem hi] at this
 have hnd : x.Nodup := K8 fun i hi => (h2 i hi).2
 have hat : ∀ i, i < x.length → Jk x f (x.getD i 0) = f.getD i 0 := by
  intro i hi
  unfold Jk
  rw [if_pos (Ag.2 (Au hi)), A0x hnd hi, Int.toNat_natCast]
 refine ⟨h1, hnode, hnd, hat, ?_, ?_⟩
 ·intro n hn hk
  obtain ⟨i, hi, rfl⟩ := List.getElem_of_mem hn
  have e : x[i] = x.getD i 0 := by rw [List.getD_eq_getElem?_getD, List.getElem?_eq_getElem hi]; rfl
  have h3i := h3 i hi
  rw [e] at hk ⊢
  rw [hat i hi]
  simp only [Kd, hk, if_true, Bool.and_eq_true, JH, decide_eq_true_eq, Ag] at h3i
  exact ⟨h3i.1, h3i.2.1, h3i.2.2⟩
 ·intro n hn hk
  obtain ⟨i, hi, rfl⟩ := List.getElem_of_mem hn
  have e : x[i] = x.getD i 0 := by rw [List.getD_eq_getElem?_getD, List.getElem?_eq_getElem hi]; rfl
  have h3i := h3 i hi
  rw [e] at hk ⊢
  rw [hat i hi]
  simp only [Kd, hk, if_false, decide_eq_true_eq] at h3i
  exact h3i
def ahF (t : A4) (x f : List Int) (w : Int) : Int := if (t.at w.toNat).rmw = true ∧ BB x (t.at w.toNat).up = true then Jk x f (t.at w.toNat).up else -1
def A6F (t : A4) (x : List Int) (w : Int) (n : Nat) : Bool := (decide ((n : Int) = w) && Lt (t.at n)) || (BB x (n : Int) && decide ((t.at n).kind = 4) && Lt (t.at n) && Bo t n w)
def Lu (t : A4) (x : List Int) (w : Int) : BitVec 64 := Bw (A6F t x w)
/-- Does the way end here? -/
def LJ (t : A4) (w : Int) : Bool := decide (w < 0) || decide ((t.at w.toNat).thread < 0)
def Ll (t : A4) (x f : List Int) : Nat → Int → BitVec 64
 | 0, _ => 0#64
 | k + 1, w => if LJ t w = true then 0#64 else Lu t x w ||| Ll t x f k (ahF t x f w)
def Cd (t : A4) (x f : List Int) (w : Int) : BitVec 64 := Ll t x f (x.length + 1) w
def Jc (t : A4) (x f : List Int) : Nat → Int → Int
 | 0, w => w
 | k + 1, w => ahF t x f (Jc t x f k w)
theorem Js (t : A4) (x f : List Int) : ∀ (k : Nat) (w : Int), Jc t x f (k + 1) w = Jc t x f k (ahF t x f w)
 | 0, w => rfl
 | k + 1, w => by rw [Jc, Js t x f k w]; rfl
theorem GZ (t : A4) (x f : List Int) (b : Nat) : ∀ (k : Nat) (w : Int), (Ll t x f k w).getLsbD b = true ↔ ∃ j, j < k ∧ (∀ i, i ≤ j → LJ t (Jc t x f i w) = false) ∧ (Lu t x (Jc t x f j w)).getLsbD b = true
 | 0, w => by simp [Ll]
 | k + 1, w => by
  rw [Ll]
  by_cases c : LJ t w = true
  ·rw [if_pos c]
   constructor
   ·intro h; simp at h
   ·rintro ⟨j, _, h, _⟩
    have := h 0 (Nat.zero_le _)
    rw [Jc, c] at this; cases this
  ·rw [if_neg c, BitVec.getLsbD_or, Bool.or_eq_true, GZ t x f b k]
   constructor
   ·rintro (h | ⟨j, h1, h2, h3⟩)
    ·exact ⟨0, by omega, fun i hi => by rw [Nat.le_zero.1 hi]; exact Bool.eq_false_iff.2 c, h⟩
    ·refine ⟨j + 1, by omega, fun i hi => ?_, by rw [Js]; exact h3⟩
     rcases i with _ | i
     ·exact Bool.eq_false_iff.2 c
     ·rw [Js]; exact h2 i (by omega)
   ·rintro ⟨j, h1, h2, h3⟩
    rcases j with _ | j
    ·exact .inl h3
    ·refine .inr ⟨j, by omega, fun i hi => ?_, by rw [Js] at h3; exact h3⟩
     have := h2 (i + 1) (by omega)
     rwa [Js] at this
/-- The union over the first so many of the way. -/
def Qn (t : A4) (x f : List Int) (w : Int) (i : Nat) : BitVec 64 := (List.range i).foldl (fun s j => s ||| Lu t x (Jc t x f j w)) 0#64
theorem ZO (t : A4) (x f : List Int) (w : Int) (i : Nat) : Qn t x f w (i + 1) = Qn t x f w i ||| Lu t x (Jc t x f i w) := by
 unfold Qn
 rw [List.range_succ, List.foldl_append]
 rfl
theorem R4 (t : A4) (x f : List Int) (w : Int) (b : Nat) (i : Nat) : (Qn t x f w i).getLsbD b = true ↔ ∃ j, j < i ∧ (Lu t x (Jc t x f j w)).getLsbD b = true := by
 unfold Qn
 rw [Tg]
 simp [List.any_eq_true]
/-- The way that has been gone. -/
def J9 (t : A4) (x f : List Int) (w : Int) (i : Nat) : List Int := (List.range i).map fun j => Jc t x f j w
theorem R9 (t : A4) (x f : List Int) (w : Int) (i : Nat) : J9 t x f w (i + 1) = J9 t x f w i ++ [Jc t x f i w] := by
 unfold J9
 rw [List.range_succ, List.map_append]
 rfl
theorem NT {t : A4} {x f : List Int} {w : Int} {i : Nat} {v : Int} : v ∈ J9 t x f w i ↔ ∃ j, j < i ∧ Jc t x f j w = v := by
 simp [J9]
theorem A0m {t : A4} (ht : Aj t) {x f : List Int} (h : DR t x f) {w : Int} (hw : w ∈ x) : ahF t x f w = -1 ∨ (ahF t x f w ∈ x ∧ (t.at (ahF t x f w).toNat).kind = 3) := by
 unfold ahF
 by_cases c : (t.at w.toNat).rmw = true ∧ BB x (t.at w.toNat).up = true
 ·rw [if_pos c]
  obtain ⟨m, rfl, hm⟩ := Aq (h.node w hw)
  rw [Int.toNat_natCast] at c ⊢
  have hl : t.locs.length ≤ m := by
   rcases Nat.lt_or_ge m t.locs.length with h1 | h1
   ·have := ht.first.2 m h1
    simp only [JR, Bool.and_eq_true] at this
    have h3 := this.1.1.2
    rw [c.1] at h3; cases h3
   ·exact h1
  obtain ⟨_, k2⟩ := (ht.good m hl hm).rmw c.1
  obtain ⟨r1, r2, _⟩ := h.read _ (Ag.1 c.2) k2
  exact .inr ⟨r1, r2⟩
 ·rw [if_neg c]; exact .inl rfl
theorem L9 {t : A4} (ht : Aj t) {x f : List Int} (h : DR t x f) {w : Int} (hw : w ∈ x) : ∀ (i : Nat), (∀ j, j < i → LJ t (Jc t x f j w) = false) → Jc t x f i w = -1 ∨ Jc t x f i w ∈ x
 | 0, _ => .inr hw
 | i + 1, hi => by
  rcases L9 ht h hw i (fun j hj => hi j (by omega)) with e | e
  ·have := hi i (by omega)
   rw [e] at this; cases this
  ·rcases A0m ht h e with e | e
   ·exact .inl e
   ·exact .inr e.1
/-- What the program's walk comes to. -/
theorem A8X {t : A4} (ht : Aj t) {x f : List Int} (h : DR t x f) {w : Int} (hw : w ∈ x) {i : Nat} (hoff : ∀ j, j < i → LJ t (Jc t x f j w) = false) (hnd : (J9 t x f w i).Nodup)
  (he : LJ t (Jc t x f i w) = true ∨ Jc t x f i w ∈ J9 t x f w i) : Qn t x f w i = Cd t x f w := by
 have hil : i ≤ x.length := by
  have h1 : (J9 t x f w i).length = i := by simp [J9]
  rw [← h1]
  refine Ln _ _ hnd fun v hv => ?_
  obtain ⟨j, hj, rfl⟩ := NT.1 hv
  rcases L9 ht h hw j (fun k hk => hoff k (by omega)) with e | e
  ·have := hoff j hj
   rw [e] at this; cases this
  ·exact e
 apply Sub.anti
 ·intro b hb
  obtain ⟨j, hj, h1⟩ := (R4 _ _ _ _ _ _).1 hb
  exact (GZ _ _ _ _ _ _).2 ⟨j, by omega, fun k hk => hoff k (by omega), h1⟩
 ·intro b hb
  obtain ⟨j, hj, h1, h2⟩ := (GZ _ _ _ _ _ _).1 hb
  have key : ∀ j, (∀ k, k ≤ j → LJ t (Jc t x f k w) = false) → ∃ j', j' < i ∧ Jc t x f j' w = Jc t x f j w := by
   intro j
   induction j with
   | zero =>
    intro hk
    rcases Nat.eq_zero_or_pos i with e | e
    ·subst e
     rcases he with he | he
     ·rw [hk 0 (Nat.le_refl _)] at he; cases he
     ·simp [J9] at he
    ·exact ⟨0, e, rfl⟩
   | succ j ih =>
    intro hk
    obtain ⟨j', h3, h4⟩ := ih fun k hk' => hk k (by omega)
    have e5 : Jc t x f (j' + 1) w = Jc t x f (j + 1) w := by rw [Jc, Jc, h4]
    rcases Nat.lt_or_ge (j' + 1) i with h5 | h5
    ·exact ⟨j' + 1, h5, e5⟩
    ·have e6 : j' + 1 = i := by omega
     rw [e6] at e5
     rcases he with he | he
     ·rw [e5, hk (j + 1) (Nat.le_refl _)] at he; cases he
     ·obtain ⟨j3, h6, h7⟩ := NT.1 he
      exact ⟨j3, h6, h7.trans e5⟩
  obtain ⟨j', h3, h4⟩ := key j h1
  exact (R4 _ _ _ _ _ _).2 ⟨j', h3, by rw [h4]; exact h2⟩
def HK (t : A4) (x : List Int) (r : Int) (n : Nat) : Bool := (decide ((n : Int) = r) && LU (t.at n)) || (BB x (n : Int) && decide ((t.at n).kind = 4) && LU (t.at n) && Bo t r n)
def Nr (t : A4) (x f : List Int) (r : Int) : Bool := decide ((t.at r.toNat).kind = 2) && !decide ((t.at (Jk x f r).toNat).thread = (t.at r.toNat).thread)
def swB (t : A4) (x f : List Int) (a b : Nat) : Bool := x.any fun r => Nr t x f r && Ck (Cd t x f (Jk x f r)) (a : Int) && HK t x r b
def hbB (t : A4) (x f : List Int) (a b : Nat) : Bool := (BB x (a : Int) && BB x (b : Int) && Bo t a b) || swB t x f a b
def hbM (t : A4) (x f : List Int) : Rows := Gq (Bc t.nodes.length (hbB t x f))
theorem JE {n : Nat} (hn : n ≤ 64) (p : Nat → Nat → Bool) : DJ (Bc n p) = true := by
 simp only [DJ, Bool.and_eq_true, decide_eq_true_eq, List.all_eq_true, Cx]
 refine ⟨hn, fun r hr => ?_⟩
 obtain ⟨a, ha, rfl⟩ := List.mem_map.1 hr
 apply BZ
 intro j hj
 rw [BitVec.getLsbD_and, BitVec.getLsbD_not, AF, Ek, AF]
 by_cases c : j < n
 ·simp [c, hj]
 ·simp [c]
theorem HA {n : Nat} {p : Nat → Nat → Bool} {a : Nat} (h : a < n) : (Bc n p).getD a 0#64 = Bw fun b => decide (b < n) && p a b := by
 rw [List.getD_eq_getElem?_getD, EO h, Option.getD_some]
theorem DV {n : Nat} {p q : Nat → Nat → Bool} (h : ∀ a b, a < n → b < n → p a b = q a b) : Bc n p = Bc n q := by
 unfold Bc
 apply List.map_congr_left
 intro a ha
 apply BN
 intro b _
 by_cases c : b < n
 ·rw [h a b (List.mem_range.1 ha) c]
 ·simp [c]
theorem A4r {n : Nat} (hn : n ≤ 64) (p q : Nat → Nat → Bool) : orF (Bc n p) (Bc n q) = Bc n fun a b => p a b || q a b := by
 unfold orF
 rw [JE hn, JE hn, Cx, Cx]
 simp only [decide_true, Bool.and_self, if_true]
 apply List.map_congr_left
 intro a ha
 have h := List.mem_range.1 ha
 rw [HA h, HA h]
 apply BZ
 intro j hj
 rw [BitVec.getLsbD_or, AF, AF, AF]
 cases decide (j < n) <;> cases decide (j < 64) <;> simp
theorem Z7 {n : Nat} (hn : n ≤ 64) (p : Nat → Nat → Bool) (s : BitVec 64) : WJ (Bc n p) s = Bc n fun a b => Ck s a && Ck s b && p a b := by
 unfold WJ
 rw [JE hn, Cx]
 simp only [if_true]
 apply List.map_congr_left
 intro a ha
 have h := List.mem_range.1 ha
 rw [HA h]
 cases c : Ck s (a : Int) with
 | false =>
  simp only [Bool.false_and, Bool.and_false, Bool.false_eq_true, if_false, c]
  exact GV.symm
 | true =>
  simp only [if_true, Bool.true_and, c]
  apply BZ
  intro j hj
  rw [BitVec.getLsbD_and, AF, AF]
  simp only [B7]
  cases decide (j < n) <;> cases decide (j < 64) <;> cases s.getLsbD j <;> simp
end Go.AM

namespace Go.AM
open Go Go.Proofs
theorem DW {s : BitVec 64} {x : Int} : x ∈ AK s ↔ Ck s x = true := by
 unfold AK
 rw [List.mem_map]
 constructor
 ·rintro ⟨i, hi, rfl⟩
  rw [B7]; exact JT.1 hi
 ·intro h
  obtain ⟨h1, h2⟩ := Hi h
  obtain ⟨m, rfl⟩ := Int.eq_ofNat_of_zero_le h1
  rw [B7] at h
  exact ⟨m, JT.2 h, rfl⟩
theorem CI.list {t : A4} (ht : t.nodes.length ≤ 64) {l : List Int} (h : CI t l) (x : Int) : x ∈ AK (D6 l) ↔ x ∈ l := by
 rw [DW, h.has ht, Ag]
/-- A set that is put together by going through a list. -/
def Eh (p : Int → Bool) (s : BitVec 64) (l : List Int) : BitVec 64 := l.foldl (fun s n => if p n = true then s ||| CX n else s) s
theorem Ri (p : Int → Bool) (j : Nat) (hj : j < 64) : ∀ (l : List Int) (s : BitVec 64), (Eh p s l).getLsbD j = (s.getLsbD j || (BB l (j : Int) && p (j : Int))) := by
 intro l
 induction l with
 | nil => intro s; simp [Eh, BB]
 | cons x l ih =>
  intro s
  show (Eh p (if p x = true then s ||| CX x else s) l).getLsbD j = _
  rw [ih]
  have e : BB (x :: l) (j : Int) = (decide ((j : Int) = x) || BB l (j : Int)) := rfl
  rw [e]
  by_cases c : (j : Int) = x
  ·subst c
   cases hp : p (j : Int) with
   | false => simp
   | true =>
    rw [if_pos rfl, BitVec.getLsbD_or, CR]
    simp [hj]
  ·have : (CX x).getLsbD j = false := by rw [CR]; simp [c]
   by_cases hp : p x = true
   ·rw [if_pos hp, BitVec.getLsbD_or, this]; simp [c]
   ·rw [if_neg hp]; simp [c]
theorem Pw {p : Int → Bool} {s : BitVec 64} {l : List Int} {k : Nat} (hk : k < l.length) : Eh p s (l.take (k + 1)) = if p (l.getD k 0) = true then Eh p s (l.take k) ||| CX (l.getD k 0) else Eh p s (l.take k) := by
 unfold Eh
 rw [List.take_succ_eq_append_getElem hk, List.foldl_append, List.getD_eq_getElem?_getD, List.getElem?_eq_getElem hk]
 rfl
/-- One row of a relation is widened. -/
theorem A5k {n a : Nat} (ha : a < n) (p : Nat → Nat → Bool) (q : Nat → Bool) (hq : ∀ b, q b = true → b < n) : (Bc n p).set a ((Bc n p).getD a 0#64 ||| Bw q) = Bc n fun i b => p i b || (decide (i = a) && q b) := by
 apply List.ext_getElem
 ·simp [Bc]
 ·intro i h1 h2
  have hi : i < n := by simpa [Bc] using h2
  rw [List.getElem_set]
  by_cases c : a = i
  ·subst c
   rw [if_pos rfl, HA ha]
   have : (Bc n fun i b => p i b || (decide (i = a) && q b))[a] = Bw fun b => decide (b < n) && (p a b || (decide (a = a) && q b)) := by simp [Bc]
   rw [this]
   apply BZ
   intro j hj
   rw [BitVec.getLsbD_or, AF, AF, AF]
   cases hqj : q j with
   | false => simp
   | true => have := hq j hqj; simp [this, hj]
  ·rw [if_neg c]
   have c' : ¬ i = a := fun e => c e.symm
   have e1 : (Bc n p)[i]'(by simpa [Bc] using hi) = Bw fun b => decide (b < n) && p i b := by simp [Bc]
   have e2 : (Bc n fun i b => p i b || (decide (i = a) && q b))[i] = Bw fun b => decide (b < n) && (p i b || (decide (i = a) && q b)) := by simp [Bc]
   rw [e1, e2]
   apply BN
   intro j _
   simp [c']
theorem A2G (n : Nat) : Bc n (fun _ _ => false) = List.replicate n 0#64 := by
 apply List.ext_getElem
 ·simp [Bc]
 ·intro i h1 h2
  simp only [Bc, List.getElem_map, List.getElem_replicate, Bool.and_false]
  exact GV
/-- What is known, one by one, of what an event has from, as the program asks it. -/
def onL (t : A4) (x f : List Int) : List Int := (List.range t.nodes.length).map fun (n : Nat) => Jk x f (n : Int)
theorem NM {t : A4} {x f : List Int} : (onL t x f).length = t.nodes.length := by simp [onL]
theorem HH {t : A4} {x f : List Int} {n : Nat} (h : n < t.nodes.length) : (onL t x f)[n]? = some (Jk x f (n : Int)) := by simp [onL, h]
def Ht (t : A4) (x f : List Int) (n : Int) : Bool := if (t.at n.toNat).kind = 2 then BB x (Jk x f n) && JH t (Jk x f n) (t.at n.toNat).loc else decide (Jk x f n = -1)
theorem V0 (t : A4) (x f : List Int) : EZ t x f = (decide (x.length = f.length) && (List.range x.length).all (Cc t x) && (List.range x.length).all fun i => Ht t x f (x.getD i 0)) := by
 unfold EZ
 by_cases h1 : (decide (x.length = f.length) && (List.range x.length).all (Cc t x)) = true
 ·rw [h1, Bool.true_and, Bool.true_and]
  simp only [Bool.and_eq_true, decide_eq_true_eq, Av, Cc] at h1
  have hnd : x.Nodup := K8 fun i hi => (h1.2 i hi).2
  have hat : ∀ i, i < x.length → Jk x f (x.getD i 0) = f.getD i 0 := by
   intro i hi
   unfold Jk
   rw [if_pos (Ag.2 (Au hi)), A0x hnd hi, Int.toNat_natCast]
  rw [Bool.eq_iff_iff, Av, Av]
  constructor
  ·intro h i hi
   have := h i hi
   rw [Kd] at this
   rw [Ht, hat i hi]; exact this
  ·intro h i hi
   have := h i hi
   rw [Ht, hat i hi] at this
   rw [Kd]; exact this
 ·rw [Bool.not_eq_true] at h1
  rw [h1, Bool.false_and, Bool.false_and]
end Go.AM

namespace Go.AM
open Go Go.Proofs
theorem A53 {t : A4} {x : List Int} (hx : CI t x) {w : Int} (hw : w ∈ x) {a : Nat} (h : (Lu t x w).getLsbD a = true) : a < t.nodes.length := by
 rw [Lu, AF, Bool.and_eq_true] at h
 have h1 := h.1
 simp only [A6F, Bool.or_eq_true, Bool.and_eq_true, decide_eq_true_eq, Ag] at h1
 have : (a : Int) ∈ x := by
  rcases h1 with h1 | h1
  ·rw [h1.1]; exact hw
  ·exact h1.1.1.1
 obtain ⟨m, e, hm⟩ := Aq (hx _ this)
 omega
theorem Zu {t : A4} (ht : Aj t) {x f : List Int} (hF : DR t x f) {w : Int} (hw : w ∈ x) {a : Nat} (h : (Cd t x f w).getLsbD a = true) : a < t.nodes.length := by
 obtain ⟨j, _, h2, h3⟩ := (GZ _ _ _ _ _ _).1 h
 rcases L9 ht hF hw j (fun k hk => h2 k (by omega)) with e | e
 ·have := h2 j (Nat.le_refl _)
  rw [e] at this; cases this
 ·exact A53 hF.node e h3
theorem A2K {t : A4} {x : List Int} (hx : CI t x) {r : Int} (hr : r ∈ x) {b : Nat} (h : HK t x r b = true) : b < t.nodes.length := by
 simp only [HK, Bool.or_eq_true, Bool.and_eq_true, decide_eq_true_eq, Ag] at h
 have : (b : Int) ∈ x := by
  rcases h with h1 | h1
  ·rw [h1.1]; exact hr
  ·exact h1.1.1.1
 obtain ⟨m, e, hm⟩ := Aq (hx _ this)
 omega
theorem A32 {n a : Nat} (ha : a < n) (p : Nat → Nat → Bool) (q : Nat → Bool) (hq : ∀ b, q b = true → b < n) : ((Bc n p).map eW).set a [vW ((Bw fun b => decide (b < n) && p a b) ||| Bw q)] = (Bc n fun i b => p i b || (decide (i = a) && q b)).map eW := by
 rw [← A5k ha p q hq, HA ha, List.map_set]
/-- Who is ordered by what the first so many saw. -/
def XH (t : A4) (x f : List Int) (L : List Int) (a b : Nat) : Bool := L.any fun r => Nr t x f r && Ck (Cd t x f (Jk x f r)) (a : Int) && HK t x r b
theorem A8J {t : A4} {x f L : List Int} (h : ∀ y, y ∈ L ↔ y ∈ x) (a b : Nat) : XH t x f L a b = swB t x f a b := by
 unfold XH swB
 rw [Bool.eq_iff_iff, List.any_eq_true, List.any_eq_true]
 exact ⟨fun ⟨y, h1, h2⟩ => ⟨y, (h y).1 h1, h2⟩, fun ⟨y, h1, h2⟩ => ⟨y, (h y).2 h1, h2⟩⟩
theorem A4g {t : A4} {x f L : List Int} {k : Nat} (hk : k < L.length) (a b : Nat) : XH t x f (L.take (k + 1)) a b = (XH t x f (L.take k) a b || (Nr t x f (L.getD k 0) && Ck (Cd t x f (Jk x f (L.getD k 0))) (a : Int) && HK t x (L.getD k 0) b)) := by
 unfold XH
 rw [List.take_succ_eq_append_getElem hk, List.any_append, List.getD_eq_getElem?_getD, List.getElem?_eq_getElem hk]
 simp
/-- What is laid of what the first so many have from. -/
def UR (t : A4) (x f : List Int) (k : Nat) : List Int := (List.range t.nodes.length).map fun (n : Nat) => Jk (x.take k) f (n : Int)
theorem A5l (t : A4) (x f : List Int) : UR t x f 0 = List.replicate t.nodes.length (-1) := by
 apply List.ext_getElem
 ·simp [UR]
 ·intro i h1 h2
  simp [UR, Jk, BB]
theorem A8N (t : A4) (x f : List Int) : UR t x f x.length = onL t x f := by unfold UR onL; rw [List.take_length]
theorem A0w {t : A4} {x f : List Int} {k : Nat} : (UR t x f k).length = t.nodes.length := by simp [UR]
theorem A3W {l : List Int} {n : Int} (h : BB l n = true) (m : List Int) : Hz (l ++ m) n = Hz l n := by
 have h' : BB (l ++ m) n = true := Ag.2 (List.mem_append_left _ (Ag.1 h))
 obtain ⟨i, e1, i1, i2, i3⟩ := EN h
 obtain ⟨j, e2, j1, j2, j3⟩ := EN h'
 rw [e1, e2]
 have g : ∀ k, k < l.length → (l ++ m).getD k 0 = l.getD k 0 := fun k hk => by rw [List.getD_eq_getElem?_getD, List.getD_eq_getElem?_getD, List.getElem?_append_left hk]
 rcases Nat.lt_trichotomy i j with c | c | c
 ·exact absurd (by rw [g i i1]; exact i2) (j3 i c)
 ·rw [c]
 ·exact absurd (by rw [← g j (by omega)]; exact j2) (i3 j c)
theorem A8V {t : A4} {x f : List Int} {k m : Nat} (hk : k < x.length) (hm : x.getD k 0 = (m : Int)) (hmn : m < t.nodes.length) (hris : ∀ i, i ≤ k → CS x i = true) : ((UR t x f k).map eI).set m [.i .i64 (f.getD k 0)] = (UR t x f (k + 1)).map eI := by
 have hlt : ∀ i, i < k → x.getD i 0 < x.getD k 0 := by
  have : ∀ j, j ≤ k → ∀ i, i < j → x.getD i 0 < x.getD j 0 := by
   intro j
   induction j with
   | zero => intro _ i h; omega
   | succ j ih =>
    intro hj i hi
    have := hris (j + 1) hj
    simp only [CS, Bool.or_eq_true, decide_eq_true_eq, Nat.add_sub_cancel] at this
    have h2 : x.getD j 0 < x.getD (j + 1) 0 := this.resolve_left (by omega)
    rcases Nat.lt_or_ge i j with c | c
    ·have := ih (by omega) i c; omega
    ·rw [show i = j by omega]; exact h2
  exact this k (Nat.le_refl _)
 have hnot : BB (x.take k) (m : Int) = false := by
  rw [← Bool.not_eq_true, Ag]
  intro h
  obtain ⟨i, hi, e⟩ := List.getElem_of_mem h
  rw [List.length_take] at hi
  have := hlt i (by omega)
  rw [List.getElem_take] at e
  rw [List.getD_eq_getElem?_getD, List.getElem?_eq_getElem (by omega), Option.getD_some, e, hm] at this
  omega
 have htk : x.take (k + 1) = x.take k ++ [(m : Int)] := by
  rw [List.take_succ_eq_append_getElem hk]
  rw [List.getD_eq_getElem?_getD, List.getElem?_eq_getElem hk, Option.getD_some] at hm
  rw [hm]
 have e0 : ((UR t x f k).map eI).set m [.i .i64 (f.getD k 0)] = ((UR t x f k).set m (f.getD k 0)).map eI := by rw [List.map_set]
 rw [e0]
 congr 1
 apply List.ext_getElem
 ·simp [UR]
 ·intro i h1 h2
  have hi : i < t.nodes.length := by simpa [UR] using h2
  rw [List.getElem_set]
  by_cases c : m = i
  ·subst c
   rw [if_pos rfl]
   simp only [UR, List.getElem_map, List.getElem_range]
   unfold Jk
   have h3 : BB (x.take (k + 1)) (m : Int) = true := by rw [htk, Ag]; simp
   rw [if_pos h3]
   obtain ⟨j, e, j1, j2, j3⟩ := EN h3
   rw [e, Int.toNat_natCast]
   have : j = k := by
    rw [List.length_take] at j1
    rcases Nat.lt_trichotomy j k with c | c | c
    ·exfalso
     rw [htk, List.getD_eq_getElem?_getD, List.getElem?_append_left (by rw [List.length_take]; omega), ← List.getD_eq_getElem?_getD] at j2
     have : BB (x.take k) (m : Int) = true := by rw [Ag, ← j2]; exact Au (by rw [List.length_take]; omega)
     rw [hnot] at this; cases this
    ·exact c
    ·omega
   rw [this]
  ·rw [if_neg c]
   simp only [UR, List.getElem_map, List.getElem_range]
   unfold Jk
   have c' : ¬ (i : Int) = (m : Int) := by omega
   have e : BB (x.take (k + 1)) (i : Int) = BB (x.take k) (i : Int) := by
    rw [htk, Bool.eq_iff_iff, Ag, Ag, List.mem_append]
    simp [c']
   rw [e]
   by_cases c2 : BB (x.take k) (i : Int) = true
   ·rw [if_pos c2, if_pos c2, htk, A3W c2]
   ·rw [if_neg c2, if_neg c2]
def hbF (t : A4) (x f : List Int) : Rows := if EZ t x f = true then hbM t x f else []
end Go.AM

namespace Go.AM
open Go Go.Proofs
/-- A way of one step or more. -/
inductive X6 (p : Nat → Nat → Bool) (N : Nat) (a : Nat) : Nat → Prop where
 | one {b : Nat} (hb : b < N) (h : p a b = true) : X6 p N a b
 | more {b c : Nat} (h1 : X6 p N a b) (hc : c < N) (h : p b c = true) : X6 p N a c
theorem X6.lt {p : Nat → Nat → Bool} {N a b : Nat} (h : X6 p N a b) : b < N := by cases h <;> assumption
theorem X6.trans {p : Nat → Nat → Bool} {N a b c : Nat} (h : X6 p N a b) (k : X6 p N b c) : X6 p N a c := by
 induction k with
 | one hb h2 => exact .more h hb h2
 | more _ hc h2 ih => exact .more ih hc h2
open Classical in
theorem PY {n : Nat} (hn : n ≤ 64) (p : Nat → Nat → Bool) {a b : Nat} (ha : a < n) : ((Gq (Bc n p)).getD a 0#64).getLsbD b = true ↔ X6 p n a b := by
 have hl : (Bc n p).length ≤ 64 := by rw [Cx]; exact hn
 have e : (Gq (Bc n p)).getD a 0#64 = Jl (Bc n p) ((Bc n p).getD a 0#64) := by
  rw [Gq, JE hn, if_pos rfl, List.getD_eq_getElem?_getD]
  simp [Cx, ha]
 rw [e]
 have hc := YV hl ((Bc n p).getD a 0#64)
 have row : ∀ i j, i < n → (((Bc n p).getD i 0#64).getLsbD j = true ↔ j < n ∧ p i j = true) := fun i j hi => by
  rw [HA hi, AF]
  simp only [Bool.and_eq_true, decide_eq_true_eq]
  exact ⟨fun h => h.1, fun h => ⟨h, by omega⟩⟩
 constructor
 ·intro h
  have := hc.least (Bw fun j => decide (X6 p n a j)) (fun j hj => by
   obtain ⟨h1, h2⟩ := (row a j ha).1 hj
   rw [AF]
   simp only [Bool.and_eq_true, decide_eq_true_eq]
   exact ⟨.one h1 h2, by omega⟩) (fun y hy hs j hj => by
   rw [Cx] at hy
   obtain ⟨h1, h2⟩ := (row y j hy).1 hj
   rw [AF] at hs ⊢
   simp only [Bool.and_eq_true, decide_eq_true_eq] at hs ⊢
   exact ⟨.more hs.1 h1 h2, by omega⟩) b h
  rw [AF] at this
  simp only [Bool.and_eq_true, decide_eq_true_eq] at this
  exact this.1
 ·intro h
  induction h with
  | one hb h => exact hc.sub _ ((row a _ ha).2 ⟨hb, h⟩)
  | more h1 hc' h2 ih => exact hc.closed _ (by rw [Cx]; exact h1.lt) ih _ ((row _ _ h1.lt).2 ⟨hc', h2⟩)
theorem Jp {n : Nat} (hn : n ≤ 64) (p : Nat → Nat → Bool) : (Gq (Bc n p)).length = n := by
 rw [Gq, JE hn, if_pos rfl]; simp [Cx]
theorem A3S {n : Nat} (hn : n ≤ 64) (p : Nat → Nat → Bool) : DJ (Gq (Bc n p)) = true := by
 simp only [DJ, Bool.and_eq_true, decide_eq_true_eq, List.all_eq_true, Jp hn]
 refine ⟨hn, fun r hr => ?_⟩
 obtain ⟨i, hi, rfl⟩ := List.getElem_of_mem hr
 rw [Jp hn] at hi
 apply BZ
 intro j hj
 rw [BitVec.getLsbD_and, BitVec.getLsbD_not, Ek, AF]
 have e : (Gq (Bc n p))[i] = (Gq (Bc n p)).getD i 0#64 := by rw [List.getD_eq_getElem?_getD, List.getElem?_eq_getElem (by rw [Jp hn]; exact hi)]; rfl
 rw [e]
 cases hb : ((Gq (Bc n p)).getD i 0#64).getLsbD j with
 | false => simp
 | true =>
  have := ((PY hn p hi).1 hb).lt
  simp [this, hj]
theorem M7 {n : Nat} (hn : n ≤ 64) (p : Nat → Nat → Bool) (x : Int × Int) : x ∈ Ce (Gq (Bc n p)) ↔ ∃ a b : Nat, a < n ∧ x = ((a : Int), (b : Int)) ∧ X6 p n a b := by
 rw [Ce, A3S hn, if_pos rfl, Jp hn, List.mem_flatMap]
 constructor
 ·rintro ⟨a, ha, h⟩
  have ha' := List.mem_range.1 ha
  obtain ⟨j, hj, rfl⟩ := List.mem_map.1 h
  obtain ⟨h1, h2⟩ := Hi (DW.1 hj)
  obtain ⟨b, rfl⟩ := Int.eq_ofNat_of_zero_le h1
  have h3 := DW.1 hj
  rw [B7] at h3
  exact ⟨a, b, ha', rfl, (PY hn p ha').1 h3⟩
 ·rintro ⟨a, b, ha, rfl, h⟩
  refine ⟨a, List.mem_range.2 ha, List.mem_map.2 ⟨b, DW.2 ?_, rfl⟩⟩
  rw [B7]
  exact (PY hn p ha).2 h
end Go.AM

namespace Go.AM
open Go Go.Proofs
theorem A9x {s : A9} (h : s.has.length = s.jf.length) (n : Int) : jfF s n = Jk s.has s.jf n := by
 unfold jfF Jk
 have h1 := Cb s.has n
 cases c : BB s.has n with
 | false =>
  rw [c] at h1
  have := of_decide_eq_true h1
  simp [this]
 | true =>
  obtain ⟨k, e, hk, _, _⟩ := EN c
  rw [e, if_neg (by omega)]; simp
/-- Where a node stands among its location's classes, as the program asks it. -/
def plN (t : A4) (s : A9) (n : Int) : Int := Ep s (t.at n.toNat).loc (if (t.at n.toNat).kind = 2 then jfF s n else n)
def A4s (t : A4) (s : A9) (a b : Int) : Bool := Jf (t.at a.toNat) (t.at b.toNat) (plN t s a) (plN t s b)
/-- As the program asks it. -/
def QG (t : A4) (s : A9) : Bool := Bq t s && (Ce (hbM t s.has s.jf)).all fun x => A4s t s x.1 x.2
theorem Mc {t : A4} {s : A9} (h : Bq t s = true) : EZ t s.has s.jf = true := by
 simp only [Bq, Bool.and_eq_true, decide_eq_true_eq] at h
 obtain ⟨⟨⟨⟨⟨h1, h2⟩, h3⟩, h4⟩, h5⟩, h6⟩ := h
 simp only [BT, Bool.and_eq_true] at h1
 rw [EZ, decide_eq_true h2.symm]
 simp only [Bool.true_and, Bool.and_eq_true, Av]
 constructor
 ·intro i hi
  have := Av.1 h1.1 i hi
  simp only [BR, Bool.and_eq_true] at this
  rw [Cc, this.1.1, this.1.2]; rfl
 ·intro i hi
  have := Av.1 h4 i hi
  rw [Gz] at this
  rw [Kd]
  split
  ·rename_i c
   rw [if_pos c] at this
   simp only [Bool.and_eq_true] at this ⊢
   exact ⟨this.1.1, this.1.2⟩
  ·rename_i c
   rw [if_neg c] at this
   exact this
theorem Afc {t : A4} {x f : List Int} (hF : DR t x f) {a b : Nat} (h : hbB t x f a b = true) : (a : Int) ∈ x ∧ (b : Int) ∈ x ∨ (∃ r, r ∈ x ∧ Nr t x f r = true ∧ Ck (Cd t x f (Jk x f r)) (a : Int) = true ∧ HK t x r b = true) := by
 simp only [hbB, Bool.or_eq_true, Bool.and_eq_true, Ag] at h
 rcases h with h | h
 ·exact .inl h.1
 ·rw [swB, List.any_eq_true] at h
  obtain ⟨r, hr, h⟩ := h
  simp only [Bool.and_eq_true] at h
  exact .inr ⟨r, hr, h.1.1, h.1.2, h.2⟩
theorem Aav {t : A4} {x : List Int} {r : Int} (hr : r ∈ x) {b : Nat} (h : HK t x r b = true) : (b : Int) ∈ x ∧ ((b : Int) = r ∨ (t.at b).kind = 4 ∧ Bo t r b = true) := by
 simp only [HK, Bool.or_eq_true, Bool.and_eq_true, decide_eq_true_eq, Ag] at h
 rcases h with h | h
 ·exact ⟨by rw [h.1]; exact hr, .inl h.1⟩
 ·exact ⟨h.1.1.1, .inr ⟨h.1.1.2, h.2⟩⟩
/-- Who brings a head: a write of the way, or a fence ahead of it. -/
theorem A8Q {t : A4} (ht : Aj t) {x f : List Int} (hF : DR t x f) {w : Int} (hw : w ∈ x) {a : Nat} (h : Ck (Cd t x f w) (a : Int) = true) :
  ∃ j, (∀ i, i ≤ j → Jc t x f i w ∈ x) ∧ (a : Int) ∈ x ∧ ((a : Int) = Jc t x f j w ∨ (t.at a).kind = 4 ∧ Bo t a (Jc t x f j w) = true) := by
 rw [B7] at h
 obtain ⟨j, _, h2, h3⟩ := (GZ _ _ _ _ _ _).1 h
 have hin : ∀ i, i ≤ j → Jc t x f i w ∈ x := fun i hi => by
  rcases L9 ht hF hw i (fun k hk => h2 k (by omega)) with e | e
  ·have := h2 i hi
   rw [e] at this; cases this
  ·exact e
 rw [Lu, AF, Bool.and_eq_true] at h3
 have h4 := h3.1
 simp only [A6F, Bool.or_eq_true, Bool.and_eq_true, decide_eq_true_eq, Ag] at h4
 refine ⟨j, hin, ?_⟩
 rcases h4 with h4 | h4
 ·exact ⟨by rw [h4.1]; exact hin j (Nat.le_refl _), .inl h4.1⟩
 ·exact ⟨h4.1.1.1, .inr ⟨h4.1.1.2, h4.2⟩⟩
theorem Aad {t : A4} (ht : Aj t) {x f : List Int} (hF : DR t x f) {a b : Nat} (h : X6 (hbB t x f) t.nodes.length a b) : (a : Int) ∈ x ∧ (b : Int) ∈ x := by
 have edge : ∀ {a b : Nat}, hbB t x f a b = true → (a : Int) ∈ x ∧ (b : Int) ∈ x := by
  intro a b h
  rcases Afc hF h with h | ⟨r, hr, hs, hh, he⟩
  ·exact h
  ·have hk : (t.at r.toNat).kind = 2 := by simp only [Nr, Bool.and_eq_true, decide_eq_true_eq] at hs; exact hs.1
   obtain ⟨o1, _, _⟩ := hF.read r hr hk
   obtain ⟨_, _, h1, _⟩ := A8Q ht hF o1 hh
   exact ⟨h1, (Aav hr he).1⟩
 induction h with
 | one hb h => exact edge h
 | more h1 hc h2 ih => exact ⟨ih.1, (edge h2).2⟩
end Go.AM

namespace Go.AM
open Go Go.Proofs
def Ei (t : A4) (k : Nat) : List Int := ((List.range k).filter fun i => decide ((t.at i).up < 0)).map fun (i : Nat) => (i : Int)
def JP (t : A4) : A9 := ⟨Ei t t.nodes.length, List.replicate (Ei t t.nodes.length).length (-1), (List.range t.locs.length).map fun (i : Nat) => [[(i : Int)]]⟩
theorem A1k {t : A4} {k : Nat} (h : decide ((t.at k).up < 0) = true) : Ei t (k + 1) = Ei t k ++ [(k : Int)] := by
 unfold Ei
 rw [List.range_succ, List.filter_append, List.map_append]
 simp only [List.filter_cons, List.filter_nil, h, if_true, List.map_cons, List.map_nil]
theorem A0l {t : A4} {k : Nat} (h : decide ((t.at k).up < 0) = false) : Ei t (k + 1) = Ei t k := by
 unfold Ei
 rw [List.range_succ, List.filter_append, List.map_append]
 simp [h]
theorem ML {t : A4} (k : Nat) : (Ei t k).length ≤ k := by
 unfold Ei
 rw [List.length_map]
 exact Nat.le_trans (List.length_filter_le _ _) (by simp)
def BI (l : List Int) (n : Int) : Nat := (l.takeWhile fun x => decide (x < n)).length
def BL (l : List Int) (k : Nat) (x : Int) : List Int := l.take k ++ x :: l.drop k
theorem E5 (l : List Int) (n : Int) : BI l n ≤ l.length := (List.takeWhile_sublist _).length_le
theorem Li {l : List Int} {n : Int} : ∀ {k : Nat}, k < BI l n → l.getD k 0 < n := by
 induction l with
 | nil => intro k h; simp [BI] at h
 | cons x l ih =>
  intro k h
  unfold BI at h
  rw [List.takeWhile_cons] at h
  by_cases c : x < n
  ·simp only [c, decide_true, if_true, List.length_cons] at h
   cases k with
   | zero => simpa using c
   | succ k =>
    have := ih (k := k) (by unfold BI; omega)
    simpa using this
  ·simp [c] at h
theorem A8r {l : List Int} {n : Int} (h : BI l n < l.length) : ¬ l.getD (BI l n) 0 < n := by
 induction l with
 | nil => simp at h
 | cons x l ih =>
  unfold BI at h ⊢
  rw [List.takeWhile_cons] at h ⊢
  by_cases c : x < n
  ·simp only [c, decide_true, if_true, List.length_cons] at h ⊢
   have := ih (by unfold BI; omega)
   unfold BI at this
   simpa using this
  ·simp [c]
theorem EV {l : List Int} {k : Nat} (h : k ≤ l.length) (x : Int) : (BL l k x).length = l.length + 1 := by
 simp [BL]; omega
def C0 (t : A4) (s : A9) (n kind : Int) : Bool := Bq t s && Ch t n && decide ((t.at n.toNat).kind = kind) && !BB s.has n && BB s.has (t.at n.toNat).up
def B3 (s : A9) (n w : Int) : A9 := ⟨BL s.has (BI s.has n) n, BL s.jf (BI s.has n) w, s.mo⟩
/-- So big after so many steps; no location without a class. -/
structure Big (t : A4) (s : A9) (k : Nat) : Prop where
 has : s.has.length ≤ 64 + k
 jf : s.jf.length ≤ 64 + k
 mo : s.mo.length = t.locs.length
 mi : ∀ l ∈ s.mo, l ≠ [] ∧ l.length ≤ 1 + k
 mc : ∀ l ∈ s.mo, ∀ c ∈ l, c.length ≤ 1 + k
theorem Big.sz {t : A4} (ht : Aj t) {s : A9} {k : Nat} (h : Big t s k) (hk : k ≤ 100) : Kp s :=
 ⟨by have := h.has; omega, by have := h.jf; omega, by have := h.mo; have := ht.l4; omega, fun l hl => by have := (h.mi l hl).2; omega, fun l hl c hc => by have := h.mc l hl c hc; omega⟩
theorem Big.mono {t : A4} {s : A9} {k j : Nat} (h : Big t s k) (hk : k ≤ j) : Big t s j :=
 ⟨by have := h.has; omega, by have := h.jf; omega, h.mo, fun l hl => ⟨(h.mi l hl).1, by have := (h.mi l hl).2; omega⟩, fun l hl c hc => by have := h.mc l hl c hc; omega⟩
theorem A3A {t : A4} (ht : Aj t) : Big t (JP t) 0 := by
 have h := ML (t := t) t.nodes.length
 have h64 := ht.n64
 refine ⟨by show (Ei t t.nodes.length).length ≤ 64; omega, by show (List.replicate _ _).length ≤ 64; rw [List.length_replicate]; omega, by simp [JP], ?_, ?_⟩
 ·intro l hl
  simp only [JP, List.mem_map] at hl
  obtain ⟨i, _, rfl⟩ := hl
  simp
 ·intro l hl c hc
  simp only [JP, List.mem_map] at hl
  obtain ⟨i, _, rfl⟩ := hl
  simp at hc
  subst hc
  simp
theorem A6l {t : A4} {s : A9} {k : Nat} (h : Big t s k) (hj : s.jf.length = s.has.length) (n w : Int) : Big t (B3 s n w) (k + 1) := by
 have h1 := E5 s.has n
 refine ⟨?_, ?_, h.mo, fun l hl => ⟨(h.mi l hl).1, by have := (h.mi l hl).2; omega⟩, fun l hl c hc => by have := h.mc l hl c hc; omega⟩
 ·show (BL s.has (BI s.has n) n).length ≤ _
  rw [EV h1]; have := h.has; omega
 ·show (BL s.jf (BI s.has n) w).length ≤ _
  rw [EV (by omega)]; have := h.jf; omega
end Go.AM
