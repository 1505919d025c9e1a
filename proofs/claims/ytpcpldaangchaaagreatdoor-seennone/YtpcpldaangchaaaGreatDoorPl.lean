/-
  Own work, part of the proof of SeenNone: plain models of what functions compute.
-/
import Derived.Test.YtpcpldaangchaaaGreatDoorAmE
set_option linter.unusedVariables false
set_option linter.unusedSimpArgs false
set_option linter.unusedSectionVars false
set_option linter.unnecessarySimpa false
namespace Go.AM
open Go Go.Proofs
def ofF (xs : List Int) : BitVec 64 := xs.foldl (fun s i => s ||| oneF i) 0#64
/-- The first of a list that is so; -1: none. -/
def fIdx {α : Type} (p : α → Bool) (xs : List α) : Int := match xs.findIdx? p with
 | some i => i
 | none => -1
theorem fIdx_some {α : Type} {p : α → Bool} {xs : List α} {k : Nat} (hk : k < xs.length) (h1 : p xs[k] = true) (h2 : ∀ (j : Nat) (hj : j < k), p xs[j] = false) : fIdx p xs = k := by
 unfold fIdx
 rw [List.findIdx?_eq_some_iff_getElem.2 ⟨hk, h1, fun j hj => by simp [h2 j hj]⟩]
theorem fIdx_none {α : Type} {p : α → Bool} {xs : List α} (h : ∀ x ∈ xs, p x = false) : fIdx p xs = -1 := by
 unfold fIdx
 rw [List.findIdx?_eq_none_iff.2 h]
theorem fIdx_ge {α : Type} (p : α → Bool) (xs : List α) : decide (0 ≤ fIdx p xs) = xs.any p := by
 unfold fIdx
 cases h : xs.findIdx? p with
 | none => rw [List.findIdx?_eq_none_iff] at h; simp; exact h
 | some i =>
  obtain ⟨hi, h1, _⟩ := List.findIdx?_eq_some_iff_getElem.1 h
  simp
  exact ⟨_, List.getElem_mem hi, h1⟩
abbrev Rows := List (BitVec 64)
def Sub (s t : BitVec 64) : Prop := ∀ j, s.getLsbD j = true → t.getLsbD j = true
def ClosedR (a : Rows) (t : BitVec 64) : Prop := ∀ y, y < a.length → t.getLsbD y = true → Sub (a.getD y 0#64) t
structure IsClos (a : Rows) (s t : BitVec 64) : Prop where
 sub : Sub s t
 closed : ClosedR a t
 least : ∀ u, Sub s u → ClosedR a u → Sub t u
theorem Sub.anti {s t : BitVec 64} (h : Sub s t) (k : Sub t s) : s = t := by
 apply word_ext
 intro j _
 cases hs : s.getLsbD j with
 | true => exact (h j hs).symm
 | false =>
  cases ht : t.getLsbD j with
  | false => rfl
  | true => rw [k j ht] at hs; cases hs
theorem IsClos.uniq {a : Rows} {s t u : BitVec 64} (h : IsClos a s t) (k : IsClos a s u) : t = u := Sub.anti (h.least u k.sub k.closed) (k.least t h.sub h.closed)
theorem sub_or (s t : BitVec 64) : (s ||| t = t) ↔ Sub s t := by
 constructor
 ·intro h j hj
  rw [← h, BitVec.getLsbD_or, hj, Bool.true_or]
 ·intro h
  apply word_ext
  intro j _
  rw [BitVec.getLsbD_or]
  cases hs : s.getLsbD j with
  | true => rw [h j hs]; rfl
  | false => simp
/-- What has been reckoned of a list of so many, up to k. -/
def upTo {α : Type} (n k : Nat) (f : Nat → α) (z : α) : List α := (List.range n).map fun j => if j < k then f j else z
theorem upTo_len {α : Type} {n k : Nat} {f : Nat → α} {z : α} : (upTo n k f z).length = n := by simp [upTo]
theorem upTo_get {α : Type} {n k : Nat} {f : Nat → α} {z : α} (h : k < n) : (upTo n k f z)[k]? = some z := by
 unfold upTo
 rw [List.getElem?_map, List.getElem?_range h]
 simp
theorem upTo_set {α β : Type} {n k : Nat} {f : Nat → α} {z : α} (g : α → β) : ((upTo n k f z).map g).set k (g (f k)) = (upTo n (k + 1) f z).map g := by
 apply List.ext_getElem
 ·simp [upTo]
 ·intro j h1 h2
  simp only [upTo, List.getElem_set, List.getElem_map, List.getElem_range]
  by_cases e : k = j
  ·subst e; simp
  ·have : (j < k + 1) ↔ (j < k) := by omega
   simp [e, this]
theorem upTo_zero {α : Type} {n : Nat} {f : Nat → α} {z : α} : upTo n 0 f z = List.replicate n z := by
 apply List.ext_getElem
 ·simp [upTo]
 ·intro j h1 h2; simp [upTo]
theorem upTo_all {α : Type} {n : Nat} {f : Nat → α} {z : α} : upTo n n f z = (List.range n).map f := by
 apply List.map_congr_left
 intro j hj
 rw [if_pos (List.mem_range.1 hj)]
end Go.AM

namespace Go.AM
open Go Go.Proofs
def Node.zero : Node := ⟨0, 0, 0, 0, 0, 0, false, false, []⟩
/-- The node of a number. -/
def Tree.at (t : Tree) (i : Nat) : Node := t.nodes.getD i Node.zero
/-- What a node stands beneath has a smaller number. -/
def UpOk (t : Tree) : Prop := ∀ i, i < t.nodes.length → (t.at i).up < i
/-- Is a met, going up? -/
def benF (t : Tree) (a : Int) : Nat → Int → Bool
 | 0, _ => false
 | n + 1, x => if x < 0 then false else if x = a then true else benF t a n (t.at x.toNat).up
theorem benF_more {t : Tree} (h : UpOk t) (a : Int) : ∀ (n : Nat) (x : Int), x < n → x < t.nodes.length → benF t a (n + 1) x = benF t a n x := by
 intro n
 induction n with
 | zero =>
  intro x hx _
  show (if x < 0 then false else if x = a then true else benF t a 0 (t.at x.toNat).up) = false
  rw [if_pos (by omega)]
 | succ n ih =>
  intro x hx hl
  rw [benF]
  by_cases h0 : x < 0
  ·rw [if_pos h0, benF, if_pos h0]
  ·rw [if_neg h0]
   conv => rhs; rw [benF, if_neg h0]
   by_cases h1 : x = a
   ·rw [if_pos h1, if_pos h1]
   ·rw [if_neg h1, if_neg h1]
    have := h x.toNat (by omega)
    exact ih _ (by omega) (by omega)
/-- Is b beneath a? -/
def beneathF (t : Tree) (a : Int) (b : Nat) : Bool := benF t a t.nodes.length (t.at b).up
theorem at_eq {t : Tree} {i : Nat} (h : i < t.nodes.length) : t.at i = t.nodes[i] := by
 simp only [Tree.at, List.getD_eq_getElem?_getD, List.getElem?_eq_getElem h, Option.getD_some]
theorem at_get {t : Tree} {i : Nat} (h : i < t.nodes.length) : t.nodes[i]? = some (t.at i) := by rw [at_eq h, List.getElem?_eq_getElem h]
def nodeF (t : Tree) (n : Int) : Bool := decide (0 ≤ n) && decide (n < t.nodes.length)
theorem nodeF_nat {t : Tree} {n : Int} (h : nodeF t n = true) : ∃ m : Nat, n = (m : Int) ∧ m < t.nodes.length := by
 simp only [nodeF, Bool.and_eq_true, decide_eq_true_eq] at h
 obtain ⟨m, rfl⟩ := Int.eq_ofNat_of_zero_le h.1
 exact ⟨m, rfl, by omega⟩
theorem nodeF_of {t : Tree} {m : Nat} (h : m < t.nodes.length) : nodeF t (m : Int) = true := by
 simp only [nodeF, Bool.and_eq_true, decide_eq_true_eq]
 omega
def againstF (t : Tree) (a b : Int) : Bool := nodeF t a && nodeF t b && !decide (a = b) && decide (0 ≤ (t.at a.toNat).thread) && decide ((t.at a.toNat).thread = (t.at b.toNat).thread) && !beneathF t a b.toNat && !beneathF t b a.toNat
def plainF (n : Node) : Bool := decide (0 ≤ n.thread) && decide (n.kind = 3) && decide (n.mode = 0) && !n.rmw
end Go.AM

namespace Go.AM
open Go Go.Proofs
theorem all_range_t {n : Nat} {p : Nat → Bool} (h : ∀ j, j < n → p j = true) : (List.range n).all p = true := by
 rw [List.all_eq_true]
 intro j hj
 exact h j (List.mem_range.1 hj)
theorem all_range_f {n k : Nat} {p : Nat → Bool} (hk : k < n) (h : p k = false) : (List.range n).all p = false := by
 rw [List.all_eq_false]
 exact ⟨k, List.mem_range.2 hk, by simp [h]⟩
theorem all_range_iff {n : Nat} {p : Nat → Bool} : (List.range n).all p = true ↔ ∀ j, j < n → p j = true := by
 rw [List.all_eq_true]
 exact ⟨fun h j hj => h j (List.mem_range.2 hj), fun h j hj => h j (List.mem_range.1 hj)⟩
theorem any_range_t {n k : Nat} {p : Nat → Bool} (hk : k < n) (h : p k = true) : (List.range n).any p = true := by
 rw [List.any_eq_true]
 exact ⟨k, List.mem_range.2 hk, h⟩
theorem getI {xs : List Int} {k : Nat} (h : k < xs.length) : xs[k]? = some (xs.getD k 0) := by
 rw [List.getD_eq_getElem?_getD, List.getElem?_eq_getElem h]; rfl
theorem getLI {xs : List (List Int)} {k : Nat} (h : k < xs.length) : xs[k]? = some (xs.getD k []) := by
 rw [List.getD_eq_getElem?_getD, List.getElem?_eq_getElem h]; rfl
theorem getLLI {xs : List (List (List Int))} {k : Nat} (h : k < xs.length) : xs[k]? = some (xs.getD k []) := by
 rw [List.getD_eq_getElem?_getD, List.getElem?_eq_getElem h]; rfl
theorem getD_mem' {α : Type} {xs : List α} {k : Nat} {d : α} (h : k < xs.length) : xs.getD k d ∈ xs := by
 rw [List.getD_eq_getElem?_getD, List.getElem?_eq_getElem h]
 exact List.getElem_mem h
def inL (l : List Int) (n : Int) : Bool := l.any fun y => decide (n = y)
theorem inL_iff {l : List Int} {n : Int} : inL l n = true ↔ n ∈ l := by
 unfold inL
 rw [List.any_eq_true]
 constructor
 ·rintro ⟨x, hx, e⟩; rw [of_decide_eq_true e]; exact hx
 ·intro h; exact ⟨n, h, by simp⟩
def wIdx (l : List Int) (n : Int) : Int := fIdx (fun y => decide (n = y)) l
theorem wIdx_ge (l : List Int) (n : Int) : decide (0 ≤ wIdx l n) = inL l n := fIdx_ge _ _
theorem wIdx_lt (l : List Int) (n : Int) : decide (wIdx l n < 0) = !inL l n := by
 rw [← wIdx_ge]
 by_cases h : 0 ≤ wIdx l n
 ·have : ¬ wIdx l n < 0 := by omega
  simp [h, this]
 ·have : wIdx l n < 0 := by omega
  simp [h, this]
theorem fIdx_nat {α : Type} {p : α → Bool} {l : List α} (h : l.any p = true) : ∃ k : Nat, fIdx p l = k ∧ ∃ hk : k < l.length, p l[k] = true ∧ ∀ (j : Nat) (hj : j < k), p (l[j]'(by omega)) = false := by
 unfold fIdx
 cases e : l.findIdx? p with
 | none =>
  rw [List.findIdx?_eq_none_iff] at e
  rw [List.any_eq_true] at h
  obtain ⟨x, hx, hp⟩ := h
  rw [e x hx] at hp; cases hp
 | some i =>
  obtain ⟨hi, h1, h2⟩ := List.findIdx?_eq_some_iff_getElem.1 e
  exact ⟨i, rfl, hi, h1, fun j hj => by simpa using h2 j hj⟩
theorem fIdx_neg {α : Type} {p : α → Bool} {l : List α} (h : l.any p = false) : fIdx p l = -1 := by
 apply fIdx_none
 intro x hx
 rw [List.any_eq_false] at h
 simpa using h x hx
/-- Is it more than the one ahead of it? -/
def risF (l : List Int) (k : Nat) : Bool := decide (k = 0) || decide (l.getD (k - 1) 0 < l.getD k 0)
def initsF (t : Tree) : BitVec 64 := setF fun i => decide (i < t.nodes.length) && decide ((t.at i).up < 0)
def nodeOkF (t : Tree) (l : List Int) (k : Nat) : Bool := nodeF t (l.getD k 0) && risF l k && (decide ((t.at (l.getD k 0).toNat).up < 0) || inL l (t.at (l.getD k 0).toNat).up)
def nodesF (t : Tree) (l : List Int) : Bool := (List.range l.length).all (nodeOkF t l) && decide (initsF t ||| ofF l = ofF l)
def sameClassF (t : Tree) (x y : Int) : Bool := plainF (t.at x.toNat) && plainF (t.at y.toNat) && decide ((t.at x.toNat).val = (t.at y.toNat).val) && againstF t x y
def isWF (t : Tree) (n loc : Int) : Bool := decide ((t.at n.toNat).kind = 3) && decide ((t.at n.toNat).loc = loc)
def classAtF (t : Tree) (l has : List Int) (loc : Int) (i : Nat) : Bool := inL has (l.getD i 0) && risF l i && isWF t (l.getD i 0) loc && decide (0 ≤ (t.at (l.getD i 0).toNat).thread) && (List.range i).all fun k => sameClassF t (l.getD i 0) (l.getD k 0)
def classF (t : Tree) (l has : List Int) (loc : Int) : Bool := !decide (l.length = 0) && (List.range l.length).all (classAtF t l has loc)
def jfOkF (t : Tree) (s : Shape) (i : Nat) : Bool :=
 if (t.at (s.has.getD i 0).toNat).kind = 2 then inL s.has (s.jf.getD i 0) && isWF t (s.jf.getD i 0) (t.at (s.has.getD i 0).toNat).loc && decide ((t.at (s.jf.getD i 0).toNat).val = (t.at (s.has.getD i 0).toNat).val) else decide (s.jf.getD i 0 = -1)
def moOkF (t : Tree) (s : Shape) (loc : Nat) : Bool :=
 let m := s.mo.getD loc []
 !decide (m.length = 0) && decide (m.getD 0 [] = [(loc : Int)]) && (List.range m.length).all fun i => decide (i = 0) || classF t (m.getD i []) s.has loc
def onceF (t : Tree) (s : Shape) (i : Nat) : Bool :=
 !decide ((t.at (s.has.getD i 0).toNat).kind = 3) || decide (((s.mo.getD (t.at (s.has.getD i 0).toNat).loc.toNat []).filter fun c => inL c (s.has.getD i 0)).length = 1)
def formF (t : Tree) (s : Shape) : Bool := nodesF t s.has && decide (s.jf.length = s.has.length) && decide (s.mo.length = t.locs.length) && (List.range s.has.length).all (jfOkF t s) && (List.range s.mo.length).all (moOkF t s) && (List.range s.has.length).all (onceF t s)
/-- Sizes that fit. -/
structure SzS (s : Shape) : Prop where
 has : s.has.length ≤ 1000
 jf : s.jf.length ≤ 1000
 mo : s.mo.length ≤ 1000
 mi : ∀ l ∈ s.mo, l.length ≤ 1000
 mc : ∀ l ∈ s.mo, ∀ c ∈ l, c.length ≤ 1000
theorem SzS.mi' {s : Shape} (h : SzS s) (k : Nat) : (s.mo.getD k []).length ≤ 1000 := by
 by_cases hk : k < s.mo.length
 ·exact h.mi _ (getD_mem' hk)
 ·rw [List.getD_eq_getElem?_getD, List.getElem?_eq_none (by omega)]; simp
theorem SzS.mc' {s : Shape} (h : SzS s) (k j : Nat) : ((s.mo.getD k []).getD j []).length ≤ 1000 := by
 by_cases hk : k < s.mo.length
 ·by_cases hj : j < (s.mo.getD k []).length
  ·exact h.mc _ (getD_mem' hk) _ (getD_mem' hj)
  ·rw [List.getD_eq_getElem?_getD, List.getElem?_eq_none (by omega)]; simp
 ·rw [List.getD_eq_getElem?_getD, List.getElem?_eq_none (by rw [List.getD_eq_getElem?_getD, List.getElem?_eq_none (by omega)]; simp)]; simp
end Go.AM

namespace Go.AM
open Go Go.Proofs
/-- Does the node at come next, right beneath another one, of its thread? -/
def comesF (t : Tree) (a u : Nat) : Bool := decide (a < t.nodes.length) && decide ((t.at a).up = u) && decide ((t.at a).thread = (t.at u).thread)
def valOk (t : Tree) (v : Int) : Bool := decide (0 ≤ v) && decide (v < t.vals)
def locOk (t : Tree) (v : Int) : Bool := decide (0 ≤ v) && decide (v < t.locs.length)
def endOk (t : Tree) (u : Nat) : Bool := (t.at u).fin && decide ((t.at u).regs.length = (t.regs.getD (t.at u).thread.toNat []).length) && (t.at u).regs.all (valOk t)
/-- May a node that is no read stand beneath u, all by itself? -/
def aloneOk (t : Tree) (u : Nat) : Bool :=
 let n := t.at (u + 1); let m := t.at u
 (decide (n.kind = 4) && decide (n.loc = 0) && decide (n.val = 0) && !n.rmw && decide (1 ≤ n.mode) && decide (n.mode ≤ 4)) ||
 (decide (n.kind = 3) && locOk t n.loc && valOk t n.val &&
  (if n.rmw then decide (0 ≤ n.mode) && decide (n.mode ≤ 4) && decide (m.kind = 2) && decide (m.loc = n.loc) && decide (m.mode = n.mode) else decide (n.mode = 0) || decide (n.mode = 2) || decide (n.mode = 4)))
def rmwF (t : Tree) (u : Nat) : Bool := decide (u + 1 < t.nodes.length) && decide ((t.at (u + 1)).up = u) && (t.at (u + 1)).rmw
/-- What a read beside others must be. -/
def sideOk (t : Tree) (a v : Nat) (loc mode : Int) : Bool := decide ((t.at a).kind = 2) && decide ((t.at a).val = v) && decide ((t.at a).loc = loc) && decide ((t.at a).mode = mode) && !(t.at a).rmw
def inTree (t : Tree) (u : Nat) : Prop := u < t.nodes.length ∧ 0 ≤ (t.at u).thread ∧ (t.at u).thread < t.regs.length
/-- From u + 1 up to e stands what is beneath u. -/
def Ben (t : Tree) : Nat → Nat → Nat → Prop
 | 0, _, _ => False
 | n + 1, u, e => inTree t u ∧ (
  (comesF t (u + 1) u = false ∧ endOk t u = true ∧ e = u + 1) ∨
  (comesF t (u + 1) u = true ∧ (t.at u).fin = false ∧ (t.at u).regs = [] ∧ aloneOk t u = true ∧ Ben t n (u + 1) e) ∨
  (comesF t (u + 1) u = true ∧ (t.at u).fin = false ∧ (t.at u).regs = [] ∧ ∃ (vals : Nat) (k : Nat → Nat) (loc mode : Int), t.vals = vals ∧ 0 < vals ∧ k 0 = u + 1 ∧ k vals = e ∧ locOk t loc = true ∧
   (∀ v, v < vals → comesF t (k v) u = true ∧ sideOk t (k v) v loc mode = true ∧ Ben t n (k v) (k (v + 1))) ∧
   ((mode = 0 ∨ mode = 1 ∨ mode = 4) ∨ (0 ≤ mode ∧ mode ≤ 4 ∧ ∃ v, v < vals ∧ rmwF t (k v) = true))))
/-- A location's first write. -/
def initOk (t : Tree) (i : Nat) : Bool := decide ((t.at i).thread = -1) && decide ((t.at i).up = -1) && decide ((t.at i).kind = 3) && decide ((t.at i).loc = i) && decide ((t.at i).mode = 0) && valOk t (t.at i).val && !(t.at i).rmw && !(t.at i).fin && decide ((t.at i).regs = [])
def beginOk (t : Tree) (u i : Nat) : Bool := decide ((t.at u).thread = i) && decide ((t.at u).up = -1) && decide ((t.at u).kind = 1) && decide ((t.at u).loc = 0) && decide ((t.at u).mode = 0) && decide ((t.at u).val = 0) && !(t.at u).rmw
structure TreeOk (t : Tree) : Prop where
 v2 : 2 ≤ t.vals
 v4 : t.vals ≤ 4
 l4 : t.locs.length ≤ 4
 ln : t.locs.Nodup
 n64 : t.nodes.length ≤ 64
 r1 : 1 ≤ t.regs.length
 r4 : t.regs.length ≤ 4
 rl : ∀ l ∈ t.regs, l.length ≤ 4 ∧ l.Nodup
 first : t.locs.length ≤ t.nodes.length ∧ ∀ i, i < t.locs.length → initOk t i = true
 thr : ∃ s : Nat → Nat, s 0 = t.locs.length ∧ s t.regs.length = t.nodes.length ∧ ∀ i, i < t.regs.length → beginOk t (s i) i = true ∧ ∃ n, Ben t n (s i) (s (i + 1))
end Go.AM

namespace Go.AM
open Go Go.Proofs
theorem tmod_in {v n : Int} (hn : 0 < n) : (v.tmod n < 0 → v.tmod n + n = v % n ∧ -n < v.tmod n) ∧ (¬ v.tmod n < 0 → v.tmod n = v % n) := by
 have h1 : v.tmod n < n := Int.tmod_lt_of_pos v hn
 have h2 : -n < v.tmod n := Int.lt_tmod_of_pos v hn
 have h3 : v.tmod n + n * v.tdiv n = v := Int.tmod_add_mul_tdiv v n
 have h4 : v % n = v.tmod n % n := by
  conv => lhs; rw [← h3]
  exact Int.add_mul_emod_self_left ..
 constructor
 ·intro h
  refine ⟨?_, h2⟩
  rw [h4, ← Int.add_emod_right, Int.emod_eq_of_lt (by omega) (by omega)]
 ·intro h
  rw [h4, Int.emod_eq_of_lt (by omega) (by omega)]
/-- A row of an expression. -/
inductive GE : List VV → Prop
 | mk (op n : Int) (nm : ByteArray) (kids : List (List VV)) : kids.length ≤ 1000 → (∀ k ∈ kids, GE k) → GE [.i .i64 op, .i .i64 n, .s nm, .ls kids]
theorem GE.len {r : List VV} (h : GE r) : r.length = 4 := by cases h; rfl
theorem GE.frz {r : List VV} (h : GE r) {hh : VH} {d : Nat} : mapO (frz hh (d + 1)) r = some (r, []) := by cases h; rfl
theorem GE.take {r : List VV} (h : GE r) : r.take 4 = r := by cases h; rfl
theorem GE.cell {r : List VV} (h : GE r) : r.all VV.cell = true := by cases h; rfl
theorem getR {l : List (List VV)} {k : Nat} (h : k < l.length) : l[k]? = some l[k] := List.getElem?_eq_getElem h
def N4 : List ByteArray := [⟨⟨[97]⟩⟩, ⟨⟨[98]⟩⟩, ⟨⟨[99]⟩⟩, ⟨⟨[100]⟩⟩]
def setsF (k : Int) : Bool := decide (k = 1) || decide (k = 2) || decide (k = 4) || decide (k = 5)
/-- What a statement of a kind must have. -/
structure OKS (locs : List ByteArray) (kind mode : Int) (reg loc : ByteArray) (args : Nat) : Prop where
 k : 1 ≤ kind ∧ kind ≤ 7
 rn : setsF kind = true → reg ∈ N4
 one : kind = 1 ∨ kind = 3 ∨ kind = 4 ∨ kind = 5 ∨ kind = 7 → 1 ≤ args
 two : kind = 5 → 2 ≤ args
 loc : kind = 2 ∨ kind = 3 ∨ kind = 4 ∨ kind = 5 → loc ∈ locs
 ml : kind = 2 → mode = 0 ∨ mode = 1 ∨ mode = 4
 ms : kind = 3 → mode = 0 ∨ mode = 2 ∨ mode = 4
 ma : kind = 4 ∨ kind = 5 → 0 ≤ mode ∧ mode ≤ 4
 mf : kind = 6 → 1 ≤ mode ∧ mode ≤ 4
 rs : reg.size ≤ 1000
abbrev rS (kind mode : Int) (reg loc : ByteArray) (args th el : List (List VV)) : List VV := [.i .i64 kind, .i .i64 mode, .s reg, .s loc, .ls args, .ls th, .ls el]
inductive GS (locs : List ByteArray) : List VV → Prop
 | mk (kind mode : Int) (reg loc : ByteArray) (args th el : List (List VV)) : args.length ≤ 1000 → (∀ a ∈ args, GE a) → th.length ≤ 1000 → el.length ≤ 1000 →
  (∀ s ∈ th, GS locs s) → (∀ s ∈ el, GS locs s) → OKS locs kind mode reg loc args.length → GS locs (rS kind mode reg loc args th el)
/-- All registers that are set have these names. -/
inductive RI (names : List ByteArray) : List VV → Prop
 | mk (kind mode : Int) (reg loc : ByteArray) (args th el : List (List VV)) : (setsF kind = true → reg ∈ names) → (∀ s ∈ th, RI names s) → (∀ s ∈ el, RI names s) → RI names (rS kind mode reg loc args th el)
theorem RI.mono {n m : List ByteArray} (h : ∀ x ∈ n, x ∈ m) {r : List VV} (k : RI n r) : RI m r := by
 induction k with
 | mk kind mode reg loc args th el h1 h2 h3 ih1 ih2 => exact .mk _ _ _ _ _ _ _ (fun e => h _ (h1 e)) ih1 ih2
theorem GS.len {l : List ByteArray} {r : List VV} (h : GS l r) : r.length = 7 := by cases h; rfl
theorem GS.frz {l : List ByteArray} {r : List VV} (h : GS l r) {hh : VH} {d : Nat} : mapO (frz hh (d + 1)) r = some (r, []) := by cases h; rfl
theorem GS.take {l : List ByteArray} {r : List VV} (h : GS l r) : r.take 7 = r := by cases h; rfl
theorem GS.cell {l : List ByteArray} {r : List VV} (h : GS l r) : r.all VV.cell = true := by cases h; rfl
theorem okRows_GS {c : List ByteArray} {l : List (List VV)} (h : ∀ k ∈ l, GS c k) : okRows 7 l = true := by
 unfold okRows
 rw [List.all_eq_true]
 intro r hr
 rw [(h r hr).len]; rfl
end Go.AM

namespace Go.AM
open Go Go.Proofs
theorem at_more {t t' : Tree} {l : List Node} (h : t'.nodes = t.nodes ++ l) {i : Nat} (hi : i < t.nodes.length) : t'.at i = t.at i := by
 unfold Tree.at
 rw [h, List.getD_eq_getElem?_getD, List.getD_eq_getElem?_getD, List.getElem?_append_left hi]
theorem at_new {t t' : Tree} {l : List Node} (h : t'.nodes = t.nodes ++ l) {i : Nat} (hi : t.nodes.length ≤ i) (h2 : i < t'.nodes.length) : t'.at i ∈ l := by
 have hl : t'.nodes.length = t.nodes.length + l.length := by rw [h, List.length_append]
 unfold Tree.at
 rw [h, List.getD_eq_getElem?_getD, List.getElem?_append_right hi, List.getElem?_eq_getElem (by omega)]
 exact List.getElem_mem _
/-- The same but for nodes that come behind. -/
structure More (t t' : Tree) (l : List Node) : Prop where
 n : t'.nodes = t.nodes ++ l
 v : t'.vals = t.vals
 l : t'.locs = t.locs
 r : t'.regs = t.regs
theorem More.len {t t' : Tree} {l : List Node} (h : More t t' l) : t.nodes.length ≤ t'.nodes.length := by rw [h.n, List.length_append]; omega
theorem comes_more {t t' : Tree} {l : List Node} (h : More t t' l) {u a : Nat} (hu : u < t.nodes.length) (hx : ∀ x ∈ l, x.up ≠ (u : Int)) : comesF t' a u = comesF t a u := by
 unfold comesF
 by_cases ha : a < t.nodes.length
 ·have := h.len
  have ha' : a < t'.nodes.length := by omega
  rw [at_more h.n ha, at_more h.n hu, decide_eq_true ha, decide_eq_true ha']
 ·rw [decide_eq_false ha]
  by_cases ha' : a < t'.nodes.length
  ·have := hx _ (at_new h.n (by omega) ha')
   rw [decide_eq_false this]; simp
  ·rw [decide_eq_false ha']; simp
theorem rmw_more {t t' : Tree} {l : List Node} (h : More t t' l) {u : Nat} (hu : u < t.nodes.length) (hx : ∀ x ∈ l, x.up ≠ (u : Int)) : rmwF t' u = rmwF t u := by
 unfold rmwF
 by_cases ha : u + 1 < t.nodes.length
 ·have := h.len
  have ha' : u + 1 < t'.nodes.length := by omega
  rw [at_more h.n ha, decide_eq_true ha, decide_eq_true ha']
 ·rw [decide_eq_false ha]
  by_cases ha' : u + 1 < t'.nodes.length
  ·have := hx _ (at_new h.n (by omega) ha')
   rw [decide_eq_false this]; simp
  ·rw [decide_eq_false ha']; simp
theorem Ben.lt {t : Tree} : ∀ {n u e : Nat}, Ben t n u e → u < e := by
 intro n
 induction n with
 | zero => intro u e h; exact h.elim
 | succ n ih =>
  intro u e h
  rcases h.2 with ⟨_, _, rfl⟩ | ⟨_, _, _, _, b⟩ | ⟨_, _, _, vals, k, loc, mode, _, h0, hk0, hke, _, hs, _⟩
  ·omega
  ·have := ih b; omega
  ·have key : ∀ j, j ≤ vals → u + 1 ≤ k j := by
    intro j
    induction j with
    | zero => intro _; omega
    | succ j ihj =>
     intro hj
     have h1 := ihj (by omega)
     have h2 := ih (hs j (by omega)).2.2
     omega
   have := key vals (Nat.le_refl _)
   omega
theorem comes_lt {t : Tree} {a u : Nat} (h : comesF t a u = true) : a < t.nodes.length := by
 unfold comesF at h
 simp only [Bool.and_eq_true, decide_eq_true_eq] at h
 exact h.1.1
/-- The places of kids rise. -/
theorem kids_rise {t : Tree} {n : Nat} {k : Nat → Nat} {vals : Nat} (hs : ∀ v, v < vals → Ben t n (k v) (k (v + 1))) : ∀ i j, i ≤ j → j ≤ vals → k i ≤ k j := by
  intro i j hij hj
  induction j with
  | zero => have : i = 0 := by omega
            subst this; exact Nat.le_refl _
  | succ j ih =>
    by_cases e : i = j + 1
    · subst e; exact Nat.le_refl _
    · have h1 := ih (by omega) (by omega)
      have h2 := (hs j (by omega)).lt
      omega
theorem Ben.le {t : Tree} : ∀ {n u e : Nat}, Ben t n u e → e ≤ t.nodes.length := by
 intro n
 induction n with
 | zero => intro u e h; exact h.elim
 | succ n ih =>
  intro u e h
  rcases h.2 with ⟨_, _, rfl⟩ | ⟨_, _, _, _, b⟩ | ⟨_, _, _, vals, k, loc, mode, _, h0, hk0, hke, _, hs, _⟩
  ·exact h.1.1
  ·exact ih b
  ·have := ih (hs (vals - 1) (by omega)).2.2
   rw [show vals - 1 + 1 = vals by omega, hke] at this
   exact this
theorem Ben.more {t t' : Tree} {l : List Node} (h : More t t' l) : ∀ {n u e : Nat}, Ben t n u e → (∀ x ∈ l, x.up < (u : Int) ∨ (e : Int) ≤ x.up) → Ben t' n u e := by
 intro n
 induction n with
 | zero => intro u e b; exact b.elim
 | succ n ih =>
  intro u e b hx
  have hlt := b.lt
  have hle := b.le
  have hl := h.len
  obtain ⟨⟨i1, i2, i3⟩, b⟩ := b
  have hu : t'.at u = t.at u := at_more h.n i1
  have hc : ∀ a, comesF t' a u = comesF t a u := fun a => comes_more h i1 fun x hx' e' => by rcases hx x hx' with h1 | h1 <;> omega
  refine ⟨⟨by omega, by rw [hu]; exact i2, by rw [hu, h.r]; exact i3⟩, ?_⟩
  rcases b with ⟨b1, b2, b3⟩ | ⟨b1, b2, b3, b4, b5⟩ | ⟨b1, b2, b3, vals, k, loc, mode, b4, b5, b6, b7, b8, b9, b10⟩
  ·refine .inl ⟨(hc _).trans b1, ?_, b3⟩
   unfold endOk valOk at b2 ⊢
   rw [hu, h.r, h.v]; exact b2
  ·refine .inr (.inl ⟨(hc _).trans b1, by rw [hu]; exact b2, by rw [hu]; exact b3, ?_, ih b5 fun x hx' => ?_⟩)
   ·have := comes_lt b1
    unfold aloneOk locOk valOk at b4 ⊢
    rw [hu, at_more h.n this, h.l, h.v]; exact b4
   ·rcases hx x hx' with h1 | h1
    ·exact .inl (by omega)
    ·exact .inr h1
  ·have hr := kids_rise fun v hv => (b9 v hv).2.2
   refine .inr (.inr ⟨(hc _).trans b1, by rw [hu]; exact b2, by rw [hu]; exact b3, vals, k, loc, mode, by rw [h.v]; exact b4, b5, b6, b7, by unfold locOk at b8 ⊢; rw [h.l]; exact b8, fun v hv => ?_, ?_⟩)
   ·obtain ⟨c1, c2, c3⟩ := b9 v hv
    have h1 := hr 0 v (by omega) (by omega)
    have h2 := hr (v + 1) vals (by omega) (by omega)
    refine ⟨(hc _).trans c1, ?_, ih c3 fun x hx' => ?_⟩
    ·unfold sideOk at c2 ⊢
     rw [at_more h.n (comes_lt c1)]; exact c2
    ·rcases hx x hx' with h3 | h3
     ·exact .inl (by omega)
     ·exact .inr (by omega)
   ·rcases b10 with b10 | ⟨c1, c2, v, c3, c4⟩
    ·exact .inl b10
    ·have h1 := hr 0 v (by omega) (by omega)
     have h2 := hr (v + 1) vals (by omega) (by omega)
     have h3 := (b9 v c3).2.2.lt
     refine .inr ⟨c1, c2, v, c3, ?_⟩
     rw [rmw_more h (comes_lt (b9 v c3).1) fun x hx' e' => by rcases hx x hx' with h4 | h4 <;> omega]
     exact c4
theorem Ben.fuel {t : Tree} : ∀ {n u e : Nat}, Ben t n u e → Ben t (n + 1) u e := by
 intro n
 induction n with
 | zero => intro u e h; exact h.elim
 | succ n ih =>
  intro u e h
  refine ⟨h.1, ?_⟩
  rcases h.2 with b | ⟨b1, b2, b3, b4, b5⟩ | ⟨b1, b2, b3, vals, k, loc, mode, b4, b5, b6, b7, b8, b9, b10⟩
  ·exact .inl b
  ·exact .inr (.inl ⟨b1, b2, b3, b4, ih b5⟩)
  ·exact .inr (.inr ⟨b1, b2, b3, vals, k, loc, mode, b4, b5, b6, b7, b8, fun v hv => ⟨(b9 v hv).1, (b9 v hv).2.1, ih (b9 v hv).2.2⟩, b10⟩)
theorem Ben.fuel' {t : Tree} {n m u e : Nat} (h : Ben t n u e) (hm : n ≤ m) : Ben t m u e := by
  induction m with
  | zero => have : n = 0 := by omega
            subst this; exact h
  | succ m ih =>
    by_cases e : n = m + 1
    · subst e; exact h
    · exact (ih (by omega)).fuel
end Go.AM

namespace Go.AM
open Go Go.Proofs
abbrev TT (vals : Int) (locs : List ByteArray) (rg : List (List ByteArray)) (ns : List Node) : Tree := ⟨vals, locs, rg, ns⟩
/-- From a node on all has been built that is beneath it. -/
def Grew (vals : Int) (locs : List ByteArray) (rg : List (List ByteArray)) (ns : List Node) (n : Node) (ns' : List Node) : Prop :=
 ∃ (f : Bool) (g : List Int) (l : List Node), ns' = ns ++ { n with fin := f, regs := g } :: l ∧ (∀ x ∈ l, (ns.length : Int) ≤ x.up) ∧ ∃ m, Ben (TT vals locs rg ns') m ns.length ns'.length
def aloneN (nl : Nat) (vals : Int) (m n : Node) : Bool :=
 (decide (n.kind = 4) && decide (n.loc = 0) && decide (n.val = 0) && !n.rmw && decide (1 ≤ n.mode) && decide (n.mode ≤ 4)) ||
 (decide (n.kind = 3) && (decide (0 ≤ n.loc) && decide (n.loc < nl)) && (decide (0 ≤ n.val) && decide (n.val < vals)) &&
  (if n.rmw then decide (0 ≤ n.mode) && decide (n.mode ≤ 4) && decide (m.kind = 2) && decide (m.loc = n.loc) && decide (m.mode = n.mode) else decide (n.mode = 0) || decide (n.mode = 2) || decide (n.mode = 4)))
theorem aloneOk_eq (t : Tree) (u : Nat) : aloneOk t u = aloneN t.locs.length t.vals (t.at u) (t.at (u + 1)) := rfl
theorem at_app {vals : Int} {locs : List ByteArray} {rg : List (List ByteArray)} {a : List Node} {x : Node} {b : List Node} : (TT vals locs rg (a ++ x :: b)).at a.length = x := by
 simp [Tree.at]
theorem at_app1 {vals : Int} {locs : List ByteArray} {rg : List (List ByteArray)} {a : List Node} {x y : Node} {b : List Node} : (TT vals locs rg (a ++ x :: y :: b)).at (a.length + 1) = y := by
 simp [Tree.at]
theorem grew_end {vals : Int} {locs : List ByteArray} {rg : List (List ByteArray)} {ns : List Node} {n : Node} {th : Nat} (ht : n.thread = th) (hth : th < rg.length) {g : List Int} (hg : g.length = (rg.getD th []).length) (hv : ∀ v ∈ g, 0 ≤ v ∧ v < vals) :
  Grew vals locs rg ns n (ns ++ [{ n with fin := true, regs := g }]) := by
 refine ⟨true, g, [], rfl, by simp, 1, ?_⟩
 have ha : (TT vals locs rg (ns ++ [{ n with fin := true, regs := g }])).at ns.length = { n with fin := true, regs := g } := at_app
 have hl : (TT vals locs rg (ns ++ [{ n with fin := true, regs := g }])).nodes.length = ns.length + 1 := by simp
 refine ⟨⟨by omega, by rw [ha]; show 0 ≤ n.thread; omega, by rw [ha]; show n.thread < (rg.length : Int); omega⟩, .inl ⟨?_, ?_, by simp⟩⟩
 ·unfold comesF
  rw [hl]; simp
 ·unfold endOk
  rw [ha]
  simp only [ht, Int.toNat_natCast, hg, decide_true, Bool.true_and, List.all_eq_true]
  intro v h
  obtain ⟨h1, h2⟩ := hv v h
  simp [valOk, h1, h2]
theorem node_same {n : Node} (h1 : n.fin = false) (h2 : n.regs = []) : ({ n with fin := false, regs := [] } : Node) = n := by
 cases n; simp at h1 h2; subst h1; subst h2; rfl
theorem grew_alone {vals : Int} {locs : List ByteArray} {rg : List (List ByteArray)} {ns : List Node} {n x : Node} {th : Nat} (ht : n.thread = th) (hth : th < rg.length) (hf : n.fin = false) (hr : n.regs = []) (hxu : x.up = ns.length) (hxt : x.thread = th)
  (ha : aloneN locs.length vals n x = true) {ns' : List Node} (h : Grew vals locs rg (ns ++ [n]) x ns') : Grew vals locs rg ns n ns' := by
 obtain ⟨f, g, l, rfl, h1, m, h2⟩ := h
 refine ⟨false, [], { x with fin := f, regs := g } :: l, ?_, ?_, m + 1, ?_⟩
 ·rw [node_same hf hr]; simp
 ·intro y hy
  rcases List.mem_cons.1 hy with rfl | hy
  ·show (ns.length : Int) ≤ x.up; omega
  ·have := h1 y hy
   simp at this; omega
 ·have e : ns ++ [n] ++ { x with fin := f, regs := g } :: l = ns ++ n :: { x with fin := f, regs := g } :: l := by simp
  rw [e] at h2 ⊢
  have a0 : (TT vals locs rg (ns ++ n :: { x with fin := f, regs := g } :: l)).at ns.length = n := at_app
  have a1 : (TT vals locs rg (ns ++ n :: { x with fin := f, regs := g } :: l)).at (ns.length + 1) = { x with fin := f, regs := g } := at_app1
  have hl : ns.length + 1 < (TT vals locs rg (ns ++ n :: { x with fin := f, regs := g } :: l)).nodes.length := by simp
  refine ⟨⟨by omega, by rw [a0]; omega, by rw [a0]; show n.thread < (rg.length : Int); omega⟩, .inr (.inl ⟨?_, by rw [a0]; exact hf, by rw [a0]; exact hr, ?_, ?_⟩)⟩
  ·unfold comesF
   rw [a0, a1, decide_eq_true hl]
   simp [hxu, hxt, ht]
  ·rw [aloneOk_eq, a0, a1]; exact ha
  ·simpa using h2
theorem rmw_of_grew {vals : Int} {locs : List ByteArray} {rg : List (List ByteArray)} {ns : List Node} {x y : Node} {ns' : List Node} (hu : y.up = ns.length) (hr : y.rmw = true) (h : Grew vals locs rg (ns ++ [x]) y ns') : rmwF (TT vals locs rg ns') ns.length = true := by
 obtain ⟨f, g, l, rfl, _⟩ := h
 have e : (TT vals locs rg (ns ++ [x] ++ { y with fin := f, regs := g } :: l)).at (ns.length + 1) = { y with fin := f, regs := g } := by
  have := at_app (vals := vals) (locs := locs) (rg := rg) (a := ns ++ [x]) (x := { y with fin := f, regs := g }) (b := l)
  simpa using this
 unfold rmwF
 rw [e]
 simp [hu, hr]
/-- Reads side by side, so many as yet. -/
def Sides (vals : Int) (locs : List ByteArray) (rg : List (List ByteArray)) (ns : List Node) (n : Node) (v : Nat) (loc mode : Int) (rm : Nat → Bool) (nsv : List Node) : Prop :=
 ∃ (l : List Node) (k : Nat → Nat), nsv = ns ++ n :: l ∧ (∀ x ∈ l, (ns.length : Int) ≤ x.up) ∧ k 0 = ns.length + 1 ∧ k v = nsv.length ∧
  ∀ j, j < v → comesF (TT vals locs rg nsv) (k j) ns.length = true ∧ sideOk (TT vals locs rg nsv) (k j) j loc mode = true ∧ (∃ m, Ben (TT vals locs rg nsv) m (k j) (k (j + 1))) ∧ (rm j = true → rmwF (TT vals locs rg nsv) (k j) = true)
theorem sides_zero {vals : Int} {locs : List ByteArray} {rg : List (List ByteArray)} {ns : List Node} {n : Node} {loc mode : Int} {rm : Nat → Bool} : Sides vals locs rg ns n 0 loc mode rm (ns ++ [n]) :=
 ⟨[], fun _ => ns.length + 1, rfl, by simp, rfl, by simp, fun j hj => by omega⟩
theorem comes_in {t t' : Tree} {l : List Node} (h : More t t' l) {u a : Nat} (hu : u < t.nodes.length) (ha : a < t.nodes.length) : comesF t' a u = comesF t a u := by
 unfold comesF
 have := h.len
 rw [at_more h.n ha, at_more h.n hu, decide_eq_true ha, decide_eq_true (show a < t'.nodes.length by omega)]
theorem rises {t : Tree} {k : Nat → Nat} {v : Nat} (h : ∀ j, j < v → ∃ m, Ben t m (k j) (k (j + 1))) : ∀ i j, i ≤ j → j ≤ v → k i ≤ k j := by
  intro i j hij hj
  induction j with
  | zero => have : i = 0 := by omega
            subst this; exact Nat.le_refl _
  | succ j ih =>
    by_cases e : i = j + 1
    · subst e; exact Nat.le_refl _
    · have h1 := ih (by omega) (by omega)
      obtain ⟨m, h2⟩ := h j (by omega)
      have := h2.lt
      omega
theorem sides_step {vals : Int} {locs : List ByteArray} {rg : List (List ByteArray)} {ns : List Node} {n x : Node} {v : Nat} {loc mode : Int} {rm : Nat → Bool} {nsv ns' : List Node} (h : Sides vals locs rg ns n v loc mode rm nsv)
  (hxu : x.up = ns.length) (hxt : x.thread = n.thread) (hk : x.kind = 2) (hv : x.val = v) (hl : x.loc = loc) (hm : x.mode = mode) (hr : x.rmw = false) (hg : Grew vals locs rg nsv x ns') (hrm : rm v = true → rmwF (TT vals locs rg ns') nsv.length = true) :
  Sides vals locs rg ns n (v + 1) loc mode rm ns' := by
 obtain ⟨l, k, rfl, h1, h2, h3, h4⟩ := h
 obtain ⟨f, g, l', rfl, g1, m', g2⟩ := hg
 have mo : More (TT vals locs rg (ns ++ n :: l)) (TT vals locs rg ((ns ++ n :: l) ++ { x with fin := f, regs := g } :: l')) ({ x with fin := f, regs := g } :: l') := ⟨rfl, rfl, rfl, rfl⟩
 have hlen : (TT vals locs rg (ns ++ n :: l)).nodes.length = (ns ++ n :: l).length := rfl
 have ru := rises (t := TT vals locs rg (ns ++ n :: l)) (k := k) (v := v) fun j hj => (h4 j hj).2.2.1
 have hnl : ns.length < (ns ++ n :: l).length := by simp
 refine ⟨l ++ { x with fin := f, regs := g } :: l', fun j => if j ≤ v then k j else ((ns ++ n :: l) ++ { x with fin := f, regs := g } :: l').length, by simp, ?_, by simp [h2], if_neg (by omega), ?_⟩
 ·intro y hy
  rcases List.mem_append.1 hy with hy | hy
  ·exact h1 y hy
  ·rcases List.mem_cons.1 hy with rfl | hy
   ·show (ns.length : Int) ≤ x.up; omega
   ·have := g1 y hy; omega
 ·intro j hj
  dsimp only
  rw [if_pos (show j ≤ v by omega)]
  by_cases e : j = v
  ·subst e
   rw [h3, if_neg (by omega)]
   have a0 : (TT vals locs rg ((ns ++ n :: l) ++ { x with fin := f, regs := g } :: l')).at (ns ++ n :: l).length = { x with fin := f, regs := g } := at_app
   refine ⟨?_, ?_, ⟨m', g2⟩, hrm⟩
   ·unfold comesF
    rw [a0, at_more mo.n (by rw [hlen]; exact hnl)]
    have : (TT vals locs rg (ns ++ n :: l)).at ns.length = n := at_app
    rw [this]
    simp [hxu, hxt]
   ·unfold sideOk
    rw [a0]
    simp [hk, hv, hl, hm, hr]
  ·rw [if_pos (show j + 1 ≤ v by omega)]
   obtain ⟨c1, c2, ⟨m, c3⟩, c4⟩ := h4 j (by omega)
   have c0 := comes_lt c1
   have r1 := ru (j + 1) v (by omega) (Nat.le_refl _)
   have r0 := ru 0 j (by omega) (by omega)
   have r2 := c3.lt
   rw [h3] at r1
   rw [h2] at r0
   have hx : ∀ y ∈ ({ x with fin := f, regs := g } :: l' : List Node), y.up < (k j : Int) ∨ (k (j + 1) : Int) ≤ y.up := by
    intro y hy
    rcases List.mem_cons.1 hy with rfl | hy
    ·left; show x.up < (k j : Int); omega
    ·right; have := g1 y hy; omega
   refine ⟨?_, ?_, ⟨m, c3.more mo hx⟩, fun h => ?_⟩
   ·rw [comes_in mo (by rw [hlen]; exact hnl) c0]; exact c1
   ·unfold sideOk at c2 ⊢
    rw [at_more mo.n c0]; exact c2
   ·rw [rmw_more mo c0 fun y hy e => by rcases hx y hy with q | q <;> omega]
    exact c4 h
theorem fuel_all {t : Tree} {k : Nat → Nat} : ∀ v, (∀ j, j < v → ∃ m, Ben t m (k j) (k (j + 1))) → ∃ M, ∀ j, j < v → Ben t M (k j) (k (j + 1)) := by
 intro v
 induction v with
 | zero => intro _; exact ⟨0, fun j hj => by omega⟩
 | succ v ih =>
  intro h
  obtain ⟨M, hM⟩ := ih fun j hj => h j (by omega)
  obtain ⟨m, hm⟩ := h v (by omega)
  refine ⟨max M m, fun j hj => ?_⟩
  by_cases e : j = v
  ·subst e; exact hm.fuel' (Nat.le_max_right _ _)
  ·exact (hM j (by omega)).fuel' (Nat.le_max_left _ _)
theorem grew_side {vals : Nat} {locs : List ByteArray} {rg : List (List ByteArray)} {ns : List Node} {n : Node} {th : Nat} (ht : n.thread = th) (hth : th < rg.length) (hf : n.fin = false) (hr : n.regs = []) {loc mode : Int} {rm : Nat → Bool} {nsv : List Node} (hv : 0 < vals) (hl : 0 ≤ loc ∧ loc < locs.length)
  (hm : (mode = 0 ∨ mode = 1 ∨ mode = 4) ∨ (0 ≤ mode ∧ mode ≤ 4 ∧ ∃ v, v < vals ∧ rm v = true)) (h : Sides vals locs rg ns n vals loc mode rm nsv) : Grew vals locs rg ns n nsv := by
 obtain ⟨l, k, rfl, h1, h2, h3, h4⟩ := h
 refine ⟨false, [], l, by rw [node_same hf hr], h1, ?_⟩
 obtain ⟨M, hM⟩ := fuel_all vals fun j hj => (h4 j hj).2.2.1
 have a0 : (TT vals locs rg (ns ++ n :: l)).at ns.length = n := at_app
 have c0 := (h4 0 hv).1
 rw [h2] at c0
 refine ⟨M + 1, ⟨by have := comes_lt c0; omega, by rw [a0]; omega, by rw [a0]; show n.thread < (rg.length : Int); omega⟩, .inr (.inr ⟨c0, by rw [a0]; exact hf, by rw [a0]; exact hr, vals, k, loc, mode, rfl, hv, h2, h3, ?_, fun v hv => ⟨(h4 v hv).1, (h4 v hv).2.1, hM v hv⟩, ?_⟩)⟩
 ·simp [locOk, hl.1, hl.2]
 ·rcases hm with hm | ⟨m1, m2, v, m3, m4⟩
  ·exact .inl hm
  ·exact .inr ⟨m1, m2, v, m3, (h4 v m3).2.2.2 m4⟩
end Go.AM

namespace Go.AM
open Go Go.Proofs
def Thr (vals : Int) (locs : List ByteArray) (rg : List (List ByteArray)) (i : Nat) (ns : List Node) : Prop :=
 (locs.length ≤ ns.length ∧ ∀ j, j < locs.length → initOk (TT vals locs rg ns) j = true) ∧ ∃ s : Nat → Nat, s 0 = locs.length ∧ s i = ns.length ∧
  ∀ j, j < i → beginOk (TT vals locs rg ns) (s j) j = true ∧ ∃ m, Ben (TT vals locs rg ns) m (s j) (s (j + 1))
theorem thr_step {vals : Int} {locs : List ByteArray} {rg : List (List ByteArray)} {i : Nat} {ns ns' : List Node} {x : Node} (h : Thr vals locs rg i ns) (hx : x = ⟨i, -1, 1, 0, 0, 0, false, false, []⟩) (hg : Grew vals locs rg ns x ns') : Thr vals locs rg (i + 1) ns' := by
 subst hx
 obtain ⟨⟨h1, h2⟩, s, s0, si, hs⟩ := h
 obtain ⟨f, g, l, rfl, g1, m, g2⟩ := hg
 let x' : Node := ⟨i, -1, 1, 0, 0, 0, false, f, g⟩
 have mo : More (TT vals locs rg ns) (TT vals locs rg (ns ++ x' :: l)) (x' :: l) := ⟨rfl, rfl, rfl, rfl⟩
 have hl : (TT vals locs rg ns).nodes.length = ns.length := rfl
 have ru := rises (t := TT vals locs rg ns) (k := s) (v := i) fun j hj => (hs j hj).2
 refine ⟨⟨by simp; omega, fun j hj => ?_⟩, fun j => if j ≤ i then s j else (ns ++ x' :: l).length, by simp [s0], if_neg (by omega), fun j hj => ?_⟩
 ·have := h2 j hj
  unfold initOk valOk at this ⊢
  rw [at_more mo.n (by rw [hl]; omega)]
  exact this
 ·dsimp only
  rw [if_pos (show j ≤ i by omega)]
  by_cases e : j = i
  ·subst e
   rw [si, if_neg (by omega)]
   refine ⟨?_, m, g2⟩
   unfold beginOk
   have : (TT vals locs rg (ns ++ x' :: l)).at ns.length = x' := at_app
   rw [this]; simp [x']
  ·rw [if_pos (show j + 1 ≤ i by omega)]
   obtain ⟨b1, m2, b2⟩ := hs j (by omega)
   have r1 := ru (j + 1) i (by omega) (Nat.le_refl _)
   have r2 := b2.lt
   rw [si] at r1
   refine ⟨?_, m2, b2.more mo fun y hy => ?_⟩
   ·unfold beginOk at b1 ⊢
    rw [at_more mo.n (by rw [hl]; omega)]; exact b1
   ·rcases List.mem_cons.1 hy with rfl | hy
    ·left; show (-1 : Int) < _; omega
    ·right; have := g1 y hy; omega
/-- The first writes of locations. -/
def iniN (ini : List (ByteArray × Int)) (k : Nat) : List Node := (List.range k).map fun (i : Nat) => (⟨-1, -1, 3, (i : Int), 0, (ini.getD i default).2, false, false, []⟩ : Node)
theorem iniN_len (ini : List (ByteArray × Int)) (k : Nat) : (iniN ini k).length = k := by simp [iniN]
theorem iniN_succ (ini : List (ByteArray × Int)) (k : Nat) : iniN ini (k + 1) = iniN ini k ++ [⟨-1, -1, 3, k, 0, (ini.getD k default).2, false, false, []⟩] := by
 unfold iniN
 rw [List.range_succ, List.map_append]; rfl
theorem thr_zero {vals : Int} {rg : List (List ByteArray)} {ini : List (ByteArray × Int)} (hv : ∀ x ∈ ini, 0 ≤ x.2 ∧ x.2 < vals) : Thr vals (ini.map (·.1)) rg 0 (iniN ini ini.length) := by
 refine ⟨⟨by simp [iniN_len], fun j hj => ?_⟩, fun _ => ini.length, by simp, by simp [iniN_len], fun j hj => by omega⟩
 have hj' : j < ini.length := by simpa using hj
 have e : (TT vals (ini.map (·.1)) rg (iniN ini ini.length)).at j = ⟨-1, -1, 3, j, 0, (ini.getD j default).2, false, false, []⟩ := by
  unfold Tree.at
  simp only [List.getD_eq_getElem?_getD]
  rw [List.getElem?_eq_getElem (by rw [iniN_len]; exact hj')]
  simp [iniN]
 have hm : ini.getD j default ∈ ini := getD_mem' hj'
 obtain ⟨v1, v2⟩ := hv _ hm
 unfold initOk
 rw [e]
 simp [valOk, v1, v2]
 simp [List.getD_eq_getElem?_getD] at v1 v2
 omega
theorem treeOk_of {vals : Int} {locs : List ByteArray} {rg : List (List ByteArray)} {ns : List Node} (h : Thr vals locs rg rg.length ns) (v2 : 2 ≤ vals) (v4 : vals ≤ 4) (l4 : locs.length ≤ 4) (ln : locs.Nodup) (n64 : ns.length ≤ 64) (r1 : 1 ≤ rg.length) (r4 : rg.length ≤ 4) (rl : ∀ l ∈ rg, l.length ≤ 4 ∧ l.Nodup) : TreeOk (TT vals locs rg ns) where
 v2 := v2
 v4 := v4
 l4 := l4
 ln := ln
 n64 := n64
 r1 := r1
 r4 := r4
 rl := rl
 first := h.1
 thr := h.2
end Go.AM

namespace Go.AM
open Go Go.Proofs
structure NodeGood (t : Tree) (m : Nat) : Prop where
 thr : 0 ≤ (t.at m).thread
 up0 : -1 ≤ (t.at m).up
 up : (t.at m).up < m
 loc : (t.at m).kind = 2 ∨ (t.at m).kind = 3 → locOk t (t.at m).loc = true
 rmw : (t.at m).rmw = true → 0 ≤ (t.at m).up ∧ (t.at (t.at m).up.toNat).kind = 2
 par : 0 ≤ (t.at m).up → (t.at (t.at m).up.toNat).thread = (t.at m).thread
theorem comes_up {t : Tree} {a u : Nat} (h : comesF t a u = true) : (t.at a).up = u ∧ (t.at a).thread = (t.at u).thread := by
 simp only [comesF, Bool.and_eq_true, decide_eq_true_eq] at h
 exact ⟨h.1.2, h.2⟩
theorem alone_loc {t : Tree} {u : Nat} (h : aloneOk t u = true) : (t.at (u + 1)).kind = 2 ∨ (t.at (u + 1)).kind = 3 → locOk t (t.at (u + 1)).loc = true := by
 simp only [aloneOk, Bool.or_eq_true, Bool.and_eq_true, decide_eq_true_eq] at h
 rcases h with h | h
 ·intro k; have := h.1.1.1.1.1; omega
 ·intro _; exact h.1.1.2
theorem alone_rmw {t : Tree} {u : Nat} (h : aloneOk t u = true) (hr : (t.at (u + 1)).rmw = true) : (t.at u).kind = 2 := by
 simp only [aloneOk, hr, Bool.or_eq_true, Bool.and_eq_true, decide_eq_true_eq, if_true, Bool.not_true] at h
 rcases h with h | h
 ·have := h.1.1.2; cases this
 ·exact h.2.1.1.2
theorem find_seg {k : Nat → Nat} {m : Nat} : ∀ n : Nat, k 0 ≤ m → m < k n → ∃ v, v < n ∧ k v ≤ m ∧ m < k (v + 1) := by
 intro n
 induction n with
 | zero => intro h1 h2; omega
 | succ n ih =>
  intro h1 h2
  by_cases c : m < k n
  ·obtain ⟨v, a, b, d⟩ := ih h1 c
   exact ⟨v, by omega, b, d⟩
  ·exact ⟨n, by omega, by omega, h2⟩
theorem Ben.good {t : Tree} : ∀ {n u e : Nat}, Ben t n u e → ∀ m, u < m → m < e → NodeGood t m := by
 intro n
 induction n with
 | zero => intro u e h; exact absurd h (by simp [Ben])
 | succ n ih =>
  intro u e h m h1 h2
  obtain ⟨⟨_, ht, _⟩, h⟩ := h
  rcases h with ⟨_, _, rfl⟩ | ⟨c, _, _, al, hb⟩ | ⟨c, _, _, vals, k, loc, mode, _, _, hk0, hke, hloc, hs, _⟩
  ·omega
  ·by_cases e1 : m = u + 1
   ·subst e1
    obtain ⟨p, q⟩ := comes_up c
    exact ⟨by omega, by omega, by omega, alone_loc al, fun hr => ⟨by omega, by rw [p, Int.toNat_natCast]; exact alone_rmw al hr⟩, fun _ => by rw [p, Int.toNat_natCast]; exact q.symm⟩
   ·exact ih hb m (by omega) h2
  ·obtain ⟨v, hv, a, b⟩ := find_seg (k := k) (m := m) vals (by omega) (by omega)
   obtain ⟨s1, s2, s3⟩ := hs v hv
   by_cases e1 : m = k v
   ·subst e1
    obtain ⟨p, q⟩ := comes_up s1
    simp only [sideOk, Bool.and_eq_true, decide_eq_true_eq] at s2
    exact ⟨by omega, by omega, by omega, fun _ => by rw [s2.1.1.2]; exact hloc, fun hr => by rw [hr] at s2; simp at s2, fun _ => by rw [p, Int.toNat_natCast]; exact q.symm⟩
   ·exact ih s3 m (by omega) b
theorem TreeOk.good {t : Tree} (h : TreeOk t) (m : Nat) (h1 : t.locs.length ≤ m) (h2 : m < t.nodes.length) : NodeGood t m := by
 obtain ⟨s, h0, he, hs⟩ := h.thr
 obtain ⟨v, hv, a, b⟩ := find_seg (k := s) (m := m) t.regs.length (by omega) (by omega)
 obtain ⟨hb, n, hn⟩ := hs v hv
 by_cases e1 : m = s v
 ·subst e1
  simp only [beginOk, Bool.and_eq_true, decide_eq_true_eq] at hb
  have k1 := hb.1.1.1.1.2
  have k3 := hb.1.1.1.1.1.2
  have k4 := hb.2
  exact ⟨by omega, by omega, by omega, fun k => by omega, fun hr => by simp_all, fun h0 => by omega⟩
 ·exact hn.good m (by omega) b
structure InitGood (t : Tree) (i : Nat) : Prop where
 thr : (t.at i).thread = -1
 up : (t.at i).up = -1
 kind : (t.at i).kind = 3
 loc : (t.at i).loc = i
theorem TreeOk.init {t : Tree} (h : TreeOk t) (i : Nat) (hi : i < t.locs.length) : InitGood t i := by
 have := h.first.2 i hi
 simp only [initOk, Bool.and_eq_true, decide_eq_true_eq] at this
 obtain ⟨⟨⟨⟨⟨⟨⟨⟨a, b⟩, c⟩, d⟩, _⟩, _⟩, _⟩, _⟩, _⟩ := this
 exact ⟨a, b, c, d⟩
theorem TreeOk.up {t : Tree} (h : TreeOk t) : UpOk t := by
 intro i hi
 by_cases c : i < t.locs.length
 ·rw [(h.init i c).up]; omega
 ·exact (h.good i (by omega) hi).up
theorem TreeOk.wloc {t : Tree} (h : TreeOk t) {m : Nat} (hm : m < t.nodes.length) (hk : (t.at m).kind = 2 ∨ (t.at m).kind = 3) : 0 ≤ (t.at m).loc ∧ (t.at m).loc < t.locs.length := by
 by_cases c : m < t.locs.length
 ·rw [(h.init m c).loc]; omega
 ·have := (h.good m (by omega) hm).loc hk
  simp only [locOk, Bool.and_eq_true, decide_eq_true_eq] at this
  exact this
end Go.AM

namespace Go.AM
open Go Go.Proofs
def depN (t : Tree) : Nat → Nat → Int
 | 0, _ => 0
 | n + 1, i => if (t.at i).up < 0 then 0 else depN t n (t.at i).up.toNat + 1
def ovrN (t : Tree) : Nat → Nat → BitVec 64
 | 0, _ => 0#64
 | n + 1, i => if (t.at i).up < 0 then 0#64 else ovrN t n (t.at i).up.toNat ||| oneF (t.at i).up
def dep (t : Tree) (i : Nat) : Int := depN t (i + 1) i
def ovr (t : Tree) (i : Nat) : BitVec 64 := ovrN t (i + 1) i
theorem depN_more {t : Tree} (h : UpOk t) : ∀ (n i : Nat), i < n → i < t.nodes.length → depN t (n + 1) i = depN t n i := by
 intro n
 induction n with
 | zero => intro i hi; omega
 | succ n ih =>
  intro i hi hl
  rw [depN]
  conv => rhs; rw [depN]
  by_cases c : (t.at i).up < 0
  ·rw [if_pos c, if_pos c]
  ·rw [if_neg c, if_neg c]
   have := h i hl
   rw [ih _ (by omega) (by omega)]
theorem ovrN_more {t : Tree} (h : UpOk t) : ∀ (n i : Nat), i < n → i < t.nodes.length → ovrN t (n + 1) i = ovrN t n i := by
 intro n
 induction n with
 | zero => intro i hi; omega
 | succ n ih =>
  intro i hi hl
  rw [ovrN]
  conv => rhs; rw [ovrN]
  by_cases c : (t.at i).up < 0
  ·rw [if_pos c, if_pos c]
  ·rw [if_neg c, if_neg c]
   have := h i hl
   rw [ih _ (by omega) (by omega)]
theorem depN_eq {t : Tree} (h : UpOk t) {i : Nat} (hl : i < t.nodes.length) : ∀ k, depN t (i + 1 + k) i = dep t i := by
 intro k
 induction k with
 | zero => rfl
 | succ k ih => rw [← ih]; exact depN_more h (i + 1 + k) i (by omega) hl
theorem ovrN_eq {t : Tree} (h : UpOk t) {i : Nat} (hl : i < t.nodes.length) : ∀ k, ovrN t (i + 1 + k) i = ovr t i := by
 intro k
 induction k with
 | zero => rfl
 | succ k ih => rw [← ih]; exact ovrN_more h (i + 1 + k) i (by omega) hl
theorem dep_up {t : Tree} (h : UpOk t) {i u : Nat} (hl : i < t.nodes.length) (hu : (t.at i).up = u) : dep t i = dep t u + 1 := by
 have := h i hl
 rw [dep, depN, if_neg (by omega), hu, Int.toNat_natCast, ← depN_eq h (by omega) (i - (u + 1))]
 rw [show u + 1 + (i - (u + 1)) = i by omega]
theorem ovr_up {t : Tree} (h : UpOk t) {i u : Nat} (hl : i < t.nodes.length) (hu : (t.at i).up = u) : ovr t i = ovr t u ||| oneF u := by
 have := h i hl
 rw [ovr, ovrN, if_neg (by omega), hu, Int.toNat_natCast, ← ovrN_eq h (by omega) (i - (u + 1))]
 rw [show u + 1 + (i - (u + 1)) = i by omega]
theorem dep_no {t : Tree} {i : Nat} (hu : (t.at i).up < 0) : dep t i = 0 := by rw [dep, depN, if_pos hu]
theorem ovr_no {t : Tree} {i : Nat} (hu : (t.at i).up < 0) : ovr t i = 0#64 := by rw [ovr, ovrN, if_pos hu]
theorem benF_fix {t : Tree} (h : UpOk t) (a : Int) {x : Int} (hx : x < t.nodes.length) : benF t a t.nodes.length x = if x < 0 then false else if x = a then true else benF t a t.nodes.length (t.at x.toNat).up := by
 rw [← benF_more h a t.nodes.length x hx hx, benF]
theorem hasF_or (s r : BitVec 64) (x : Int) : hasF (s ||| r) x = (hasF s x || hasF r x) := by
 unfold hasF
 rw [BitVec.getLsbD_or]
 cases decide (0 ≤ x) <;> simp
theorem hasF_one (i : Nat) (x : Nat) (hx : x < 64) : hasF (oneF i) (x : Int) = decide (x = i) := by
 rw [hasF_nat, oneF_bit]
 by_cases c : x = i
 ·rw [decide_eq_true c, decide_eq_true (by omega)]
 ·rw [decide_eq_false c, decide_eq_false (by omega)]
theorem beneath_ovr {t : Tree} (h : UpOk t) {a : Nat} (ha : a < 64) : ∀ (n b : Nat), b < n → b < t.nodes.length → hasF (ovr t b) a = beneathF t a b ∧ (beneathF t a b = true → dep t a < dep t b) := by
 intro n
 induction n with
 | zero => intro b hb; omega
 | succ n ih =>
  intro b hb hl
  have hup := h b hl
  unfold beneathF
  by_cases c : (t.at b).up < 0
  ·rw [ovr_no c, benF_fix h a (by omega), if_pos c]
   exact ⟨by simp [hasF], fun h => by cases h⟩
  ·obtain ⟨u, hu⟩ := Int.eq_ofNat_of_zero_le (show 0 ≤ (t.at b).up by omega)
   have hub : u < b := by omega
   obtain ⟨i1, i2⟩ := ih u (by omega) (by omega)
   unfold beneathF at i1 i2
   rw [ovr_up h hl hu, dep_up h hl hu, hu, benF_fix h a (by omega), if_neg (by omega), hasF_or, hasF_one _ _ ha, i1, Int.toNat_natCast]
   by_cases e : a = u
   ·subst e
    rw [if_pos rfl]
    exact ⟨by simp, fun _ => by omega⟩
   ·rw [if_neg (by omega), decide_eq_false e, Bool.or_false]
    exact ⟨rfl, fun h => by have := i2 h; omega⟩
theorem dep_le {t : Tree} (h : UpOk t) : ∀ (n i : Nat), i < n → i < t.nodes.length → 0 ≤ dep t i ∧ dep t i ≤ i := by
 intro n
 induction n with
 | zero => intro i hi; omega
 | succ n ih =>
  intro i hi hl
  have hup := h i hl
  by_cases c : (t.at i).up < 0
  ·rw [dep_no c]; omega
  ·obtain ⟨u, hu⟩ := Int.eq_ofNat_of_zero_le (show 0 ≤ (t.at i).up by omega)
   have := ih u (by omega) (by omega)
   rw [dep_up h hl hu]
   omega
def depL (t : Tree) : List Int := (List.range t.nodes.length).map (dep t)
def ovrL (t : Tree) : List (BitVec 64) := (List.range t.nodes.length).map (ovr t)
theorem depL_get {t : Tree} {i : Nat} (h : i < t.nodes.length) : (depL t)[i]? = some (dep t i) := by simp [depL, h]
theorem ovrL_get {t : Tree} {i : Nat} (h : i < t.nodes.length) : (ovrL t)[i]? = some (ovr t i) := by simp [ovrL, h]
theorem deep_beneath {t : Tree} (h : UpOk t) (hn : t.nodes.length ≤ 64) {a b : Nat} (ha : a < t.nodes.length) (hb : b < t.nodes.length) : (decide (dep t a < dep t b) && hasF (ovr t b) a) = beneathF t a b := by
 obtain ⟨h1, h2⟩ := beneath_ovr h (a := a) (by omega) (b + 1) b (by omega) hb
 rw [h1]
 cases c : beneathF t a b with
 | false => simp
 | true => rw [decide_eq_true (h2 c)]; rfl
theorem upTo_lt {α : Type} {n k j : Nat} {f : Nat → α} {z : α} (h : j < k) (hn : j < n) : (upTo n k f z)[j]? = some (f j) := by
 simp [upTo, hn, h]
theorem upTo_skip {α : Type} {n k : Nat} {f : Nat → α} {z : α} (h : f k = z) : upTo n k f z = upTo n (k + 1) f z := by
 unfold upTo
 apply List.map_congr_left
 intro j hj
 by_cases e : j = k
 ·subst e; rw [if_neg (by omega), if_pos (by omega), h]
 ·by_cases c : j < k
  ·rw [if_pos c, if_pos (by omega)]
  ·rw [if_neg c, if_neg (by omega)]
end Go.AM

namespace Go.AM
open Go Go.Proofs
theorem fold_bit (j : Nat) (hj : j < 64) : ∀ (l : List Int) (s : BitVec 64), (l.foldl (fun s i => s ||| oneF i) s).getLsbD j = (s.getLsbD j || inL l (j : Int)) := by
 intro l
 induction l with
 | nil => intro s; simp [inL]
 | cons x l ih =>
  intro s
  rw [List.foldl_cons, ih, BitVec.getLsbD_or, oneF_bit]
  have e : inL (x :: l) (j : Int) = (decide ((j : Int) = x) || inL l (j : Int)) := rfl
  have e2 : decide ((j : Int) = x ∧ j < 64) = decide ((j : Int) = x) := by
   by_cases c : (j : Int) = x <;> simp [c, hj]
  rw [e, e2, Bool.or_assoc]
theorem ofF_has (l : List Int) {x : Int} (h0 : 0 ≤ x) (h1 : x < 64) : hasF (ofF l) x = inL l x := by
 obtain ⟨j, rfl⟩ := Int.eq_ofNat_of_zero_le h0
 rw [hasF_nat, ofF, fold_bit j (by omega)]
 simp
theorem has_range {s : BitVec 64} {x : Int} (h : hasF s x = true) : 0 ≤ x ∧ x < 64 := by
 simp only [hasF, Bool.and_eq_true, decide_eq_true_eq] at h
 have := BitVec.lt_of_getLsbD h.2
 omega
/-- The numbers of a list that are nodes of a small tree. -/
def NodeL (t : Tree) (l : List Int) : Prop := ∀ n ∈ l, nodeF t n = true
theorem NodeL.has {t : Tree} (ht : t.nodes.length ≤ 64) {l : List Int} (h : NodeL t l) (x : Int) : hasF (ofF l) x = inL l x := by
 by_cases c : 0 ≤ x ∧ x < 64
 ·exact ofF_has l c.1 c.2
 ·have e1 : hasF (ofF l) x = false := by
   rw [← Bool.not_eq_true]
   exact fun h => c (has_range h)
  have e2 : inL l x = false := by
   rw [← Bool.not_eq_true]
   intro h'
   obtain ⟨m, rfl, hm⟩ := nodeF_nat (h x (inL_iff.1 h'))
   exact c ⟨by omega, by omega⟩
  rw [e1, e2]
def writeF (t : Tree) (has : List Int) (n loc : Int) : Bool := inL has n && isWF t n loc
def classAtS (t : Tree) (l has : List Int) (loc : Int) (i : Nat) : Bool :=
 writeF t has (l.getD i 0) loc && decide (0 ≤ (t.at (l.getD i 0).toNat).thread) && risF l i && (!decide (1 < l.length) || plainF (t.at (l.getD i 0).toNat)) && (decide (i = 0) || (l.take i).all fun m => sameClassF t (l.getD i 0) m)
def classS (t : Tree) (l has : List Int) (loc : Int) : Bool := (List.range l.length).all (classAtS t l has loc) && decide (0 < l.length)
theorem take_all_range {l : List Int} {p : Int → Bool} : ∀ i, i ≤ l.length → (l.take i).all p = (List.range i).all fun k => p (l.getD k 0) := by
 intro i
 induction i with
 | zero => intro _; rfl
 | succ i ih =>
  intro h
  have hi : i < l.length := by omega
  have e := List.take_succ_eq_append_getElem hi
  have e2 : l.getD i 0 = l[i] := by rw [List.getD_eq_getElem?_getD, List.getElem?_eq_getElem hi]; rfl
  rw [e, List.all_append, ih (by omega), List.range_succ, List.all_append, ← e2]
  simp
theorem classS_eq (t : Tree) (l has : List Int) (loc : Int) : classS t l has loc = classF t l has loc := by
 rw [Bool.eq_iff_iff]
 simp only [classS, classF, Bool.and_eq_true, Bool.not_eq_true', decide_eq_true_eq, decide_eq_false_iff_not, all_range_iff]
 constructor
 ·rintro ⟨h1, h2⟩
  refine ⟨by omega, fun i hi => ?_⟩
  have := h1 i hi
  simp only [classAtS, writeF, Bool.and_eq_true, Bool.or_eq_true, decide_eq_true_eq] at this
  obtain ⟨⟨⟨⟨⟨a, b⟩, c⟩, d⟩, e⟩, f⟩ := this
  simp only [classAtF, Bool.and_eq_true, decide_eq_true_eq]
  refine ⟨⟨⟨⟨a, d⟩, b⟩, c⟩, ?_⟩
  rw [← take_all_range (p := fun m => sameClassF t (l.getD i 0) m) i (by omega)]
  rcases f with rfl | f
  ·rfl
  ·exact f
 ·rintro ⟨h1, h2⟩
  refine ⟨fun i hi => ?_, by omega⟩
  have hp : 1 < l.length → plainF (t.at (l.getD i 0).toNat) = true := by
   intro hl
   by_cases i0 : i = 0
   ·subst i0
    have := h2 1 hl
    simp only [classAtF, Bool.and_eq_true, all_range_iff] at this
    have := this.2 0 (by omega)
    simp only [sameClassF, Bool.and_eq_true] at this
    exact this.1.1.2
   ·have := h2 i hi
    simp only [classAtF, Bool.and_eq_true, all_range_iff] at this
    have := this.2 0 (by omega)
    simp only [sameClassF, Bool.and_eq_true] at this
    exact this.1.1.1
  have := h2 i hi
  simp only [classAtF, Bool.and_eq_true, decide_eq_true_eq] at this
  obtain ⟨⟨⟨⟨a, d⟩, b⟩, c⟩, f⟩ := this
  simp only [classAtS, writeF, Bool.and_eq_true, Bool.or_eq_true, decide_eq_true_eq, Bool.not_eq_true', decide_eq_false_iff_not]
  refine ⟨⟨⟨⟨⟨a, b⟩, c⟩, d⟩, ?_⟩, .inr ?_⟩
  ·by_cases hl : 1 < l.length
   ·exact .inr (hp hl)
   ·exact .inl hl
  ·rw [take_all_range (p := fun m => sameClassF t (l.getD i 0) m) i (by omega)]; exact f
/-- A location's writes, as they stand. -/
def allF (m : List (List Int)) (loc : Nat) : List Int := (loc : Int) :: (m.drop 1).flatten
def wantF (t : Tree) (s : Shape) (loc : Nat) : Nat := (s.has.filter fun n => writeF t s.has n loc).length
def plOkF (t : Tree) (s : Shape) (loc : Nat) : Bool :=
 let m := s.mo.getD loc []
 !decide (m.length = 0) && decide (m.getD 0 [] = [(loc : Int)]) && (m.drop 1).all (fun c => classS t c s.has loc) && decide ((allF m loc).length = wantF t s loc) && decide ((listN (ofF (allF m loc))).length = wantF t s loc)
def placedF (t : Tree) (s : Shape) : Bool := decide (s.mo.length = t.locs.length) && (List.range s.mo.length).all (plOkF t s)
def justF (t : Tree) (s : Shape) : Bool := decide (s.jf.length = s.has.length) && (List.range s.has.length).all (jfOkF t s)
end Go.AM

namespace Go.AM
open Go Go.Proofs
theorem nd_le : ∀ (l m : List Int), l.Nodup → (∀ x ∈ l, x ∈ m) → l.length ≤ m.length := by
 intro l
 induction l with
 | nil => intro m _ _; simp
 | cons x l ih =>
  intro m hn hs
  have hx := hs x List.mem_cons_self
  have h1 : x ∉ l := (List.nodup_cons.1 hn).1
  have := ih (m.erase x) (List.nodup_cons.1 hn).2 fun y hy => by
   have : y ≠ x := fun e => h1 (e ▸ hy)
   exact (List.mem_erase_of_ne this).2 (hs y (List.mem_cons_of_mem _ hy))
  rw [List.length_erase_of_mem hx] at this
  have : 0 < m.length := List.length_pos_of_mem hx
  simp only [List.length_cons]
  omega
theorem nd_sub {l m : List Int} (hn : l.Nodup) (hs : ∀ x ∈ l, x ∈ m) (hl : m.length ≤ l.length) : ∀ x ∈ m, x ∈ l := by
 intro x hx
 refine Classical.byContradiction fun hc => ?_
 have := nd_le l (m.erase x) hn fun y hy => (List.mem_erase_of_ne fun (e : y = x) => hc (e ▸ hy)).2 (hs y hy)
 rw [List.length_erase_of_mem hx] at this
 have : 0 < m.length := List.length_pos_of_mem hx
 omega
theorem nd_of : ∀ (l S : List Int), S.Nodup → (∀ x ∈ S, x ∈ l) → l.length ≤ S.length → l.Nodup := by
 intro l
 induction l with
 | nil => intro S _ _ _; exact List.nodup_nil
 | cons x l ih =>
  intro S hn hs hl
  by_cases hx : x ∈ l
  ·have := nd_le S l hn fun y hy => by
    rcases List.mem_cons.1 (hs y hy) with rfl | h
    ·exact hx
    ·exact h
   simp only [List.length_cons] at hl
   omega
  ·refine List.nodup_cons.2 ⟨hx, ih (S.erase x) (hn.erase x) (fun y hy => ?_) ?_⟩
   ·rcases List.mem_cons.1 (hs y (List.mem_of_mem_erase hy)) with rfl | h
    ·exact absurd hy (List.Nodup.not_mem_erase hn)
    ·exact h
   ·rw [List.length_erase]
    simp only [List.length_cons] at hl
    split <;> omega
theorem cls_count (n : Int) : ∀ (m : List (List Int)), (∀ c ∈ m, c.Nodup) → (m.filter fun c => inL c n).length = m.flatten.count n := by
 intro m
 induction m with
 | nil => intro _; rfl
 | cons c m ih =>
  intro h
  have h1 := h c List.mem_cons_self
  have h2 := ih fun d hd => h d (List.mem_cons_of_mem _ hd)
  rw [List.flatten_cons, List.count_append, ← h2, List.filter_cons]
  cases e : inL c n with
  | true =>
   have hm : n ∈ c := inL_iff.1 e
   have := List.nodup_iff_count.1 h1 n
   have : 0 < c.count n := List.count_pos_iff.2 hm
   rw [if_pos rfl, List.length_cons]
   omega
  | false =>
   have hm : n ∉ c := fun h => by rw [inL_iff.2 h] at e; cases e
   rw [List.count_eq_zero_of_not_mem hm]
   simp
theorem ris_lt {l : List Int} (h : ∀ i, i < l.length → risF l i = true) : ∀ j, j < l.length → ∀ i, i < j → l.getD i 0 < l.getD j 0 := by
 intro j
 induction j with
 | zero => intro _ i hi; omega
 | succ j ih =>
  intro hj i hi
  have h1 := h (j + 1) hj
  simp only [risF, Bool.or_eq_true, decide_eq_true_eq, Nat.add_sub_cancel] at h1
  have h2 : l.getD j 0 < l.getD (j + 1) 0 := by
   rcases h1 with h1 | h1
   ·omega
   ·exact h1
  by_cases e : i = j
  ·subst e; exact h2
  ·have := ih (by omega) i (by omega); omega
theorem ris_nodup {l : List Int} (h : ∀ i, i < l.length → risF l i = true) : l.Nodup := by
 rw [List.nodup_iff_pairwise_ne, List.pairwise_iff_getElem]
 intro i j hi hj hij e
 have := ris_lt h j hj i hij
 rw [List.getD_eq_getElem?_getD, List.getElem?_eq_getElem hi, List.getD_eq_getElem?_getD, List.getElem?_eq_getElem hj, Option.getD_some, Option.getD_some, e] at this
 omega
theorem listN_nodup (w : BitVec 64) : (listN w).Nodup := List.Nodup.sublist List.filter_sublist List.nodup_range
/-- The set of a list of small numbers, as a list. -/
theorem setL_mem {t : Tree} (h64 : t.nodes.length ≤ 64) {l : List Int} (h : NodeL t l) (x : Int) : x ∈ (listN (ofF l)).map (fun (j : Nat) => (j : Int)) ↔ x ∈ l := by
 constructor
 ·intro hx
  obtain ⟨j, hj, rfl⟩ := List.mem_map.1 hx
  obtain ⟨j1, j2⟩ := listN_lt hj
  have := h.has h64 (j : Int)
  rw [hasF_nat, j2] at this
  exact inL_iff.1 this.symm
 ·intro hx
  obtain ⟨m, rfl, hm⟩ := nodeF_nat (h x hx)
  refine List.mem_map.2 ⟨m, mem_listN.2 ?_, rfl⟩
  have := h.has h64 (m : Int)
  rw [hasF_nat, inL_iff.2 hx] at this
  exact this
theorem setL_nodup (w : BitVec 64) : ((listN w).map fun (j : Nat) => (j : Int)).Nodup := by
 rw [List.nodup_iff_pairwise_ne, List.pairwise_map]
 have := List.nodup_iff_pairwise_ne.1 (listN_nodup w)
 exact this.imp fun h e => h (by omega)
/-- All stand once, said in two ways. -/
theorem once_iff {t : Tree} (h64 : t.nodes.length ≤ 64) {all W : List Int} (ha : NodeL t all) (hw : W.Nodup) (hs : ∀ x ∈ all, x ∈ W) :
  (all.length = W.length ∧ (listN (ofF all)).length = W.length) ↔ ∀ n ∈ W, all.count n = 1 := by
 have hS := setL_nodup (ofF all)
 have hm := fun x => setL_mem h64 ha x
 have hl : ((listN (ofF all)).map fun (j : Nat) => (j : Int)).length = (listN (ofF all)).length := List.length_map ..
 generalize ((listN (ofF all)).map fun (j : Nat) => (j : Int)) = S at *
 rw [← hl]
 constructor
 ·rintro ⟨h1, h2⟩ n hn
  have nd := nd_of all S hS (fun x hx => (hm x).1 hx) (by omega)
  have hmem := nd_sub nd hs (by omega) n hn
  have c1 := List.nodup_iff_count.1 nd n
  have c2 : 0 < all.count n := List.count_pos_iff.2 hmem
  omega
 ·intro h
  have nd : all.Nodup := by
   rw [List.nodup_iff_count]
   intro x
   by_cases hx : x ∈ all
   ·rw [h x (hs x hx)]; exact Nat.le_refl _
   ·rw [List.count_eq_zero_of_not_mem hx]; omega
  have hmem : ∀ x ∈ W, x ∈ all := fun x hx => List.count_pos_iff.1 (by rw [h x hx]; decide)
  have a1 := nd_le all W nd hs
  have a2 := nd_le W all hw hmem
  have a3 := nd_le all S nd fun x hx => (hm x).2 hx
  have a4 := nd_le S all hS fun x hx => (hm x).1 hx
  omega
end Go.AM

namespace Go.AM
open Go Go.Proofs
theorem nodesF_parts {t : Tree} {l : List Int} (h : nodesF t l = true) : NodeL t l ∧ l.Nodup ∧ (initsF t ||| ofF l = ofF l) := by
 simp only [nodesF, Bool.and_eq_true, decide_eq_true_eq] at h
 have hr := all_range_iff.1 h.1
 refine ⟨fun n hn => ?_, ris_nodup fun i hi => ?_, h.2⟩
 ·obtain ⟨k, hk, rfl⟩ := List.mem_iff_getElem.1 hn
  have := hr k hk
  simp only [nodeOkF, Bool.and_eq_true] at this
  have := this.1.1
  rw [List.getD_eq_getElem?_getD, List.getElem?_eq_getElem hk] at this
  exact this
 ·have := hr i hi
  simp only [nodeOkF, Bool.and_eq_true] at this
  exact this.1.2
theorem init_in {t : Tree} (ht : TreeOk t) {l : List Int} (h : nodesF t l = true) {k : Nat} (hk : k < t.locs.length) : (k : Int) ∈ l := by
 obtain ⟨hn, _, hi⟩ := nodesF_parts h
 have hkn : k < t.nodes.length := Nat.lt_of_lt_of_le hk ht.first.1
 have h64 := ht.n64
 have e : (initsF t).getLsbD k = true := by
  unfold initsF
  rw [setF_bit, decide_eq_true hkn, (ht.init k hk).up, decide_eq_true (show k < 64 by omega)]; rfl
 have e2 : (ofF l).getLsbD k = true := by rw [← hi, BitVec.getLsbD_or, e]; rfl
 have := hn.has h64 (k : Int)
 rw [hasF_nat, e2] at this
 exact inL_iff.1 this.symm
theorem classF_parts {t : Tree} {l has : List Int} {loc : Int} (h : classF t l has loc = true) : l.Nodup ∧ ∀ n ∈ l, writeF t has n loc = true := by
 simp only [classF, Bool.and_eq_true] at h
 have hr := all_range_iff.1 h.2
 refine ⟨ris_nodup fun i hi => ?_, fun n hn => ?_⟩
 ·have := hr i hi
  simp only [classAtF, Bool.and_eq_true] at this
  exact this.1.1.1.2
 ·obtain ⟨k, hk, rfl⟩ := List.mem_iff_getElem.1 hn
  have := hr k hk
  simp only [classAtF, Bool.and_eq_true] at this
  have h1 := this.1.1.1.1
  have h2 := this.1.1.2
  rw [List.getD_eq_getElem?_getD, List.getElem?_eq_getElem hk, Option.getD_some] at h1 h2
  simp only [writeF, Bool.and_eq_true]
  exact ⟨h1, h2⟩
theorem mo_split {t : Tree} {s : Shape} {k : Nat} : moOkF t s k = true ↔ ∃ D, s.mo.getD k [] = [(k : Int)] :: D ∧ ∀ c ∈ D, classF t c s.has k = true := by
 simp only [moOkF, Bool.and_eq_true, Bool.not_eq_true', decide_eq_false_iff_not, decide_eq_true_eq, all_range_iff, Bool.or_eq_true]
 generalize s.mo.getD k [] = m
 constructor
 ·rintro ⟨⟨h1, h2⟩, h3⟩
  rcases m with _ | ⟨c, D⟩
  ·simp at h1
  ·refine ⟨D, by rw [show c = [(k : Int)] from h2], fun d hd => ?_⟩
   obtain ⟨j, hj, rfl⟩ := List.mem_iff_getElem.1 hd
   have := h3 (j + 1) (by simp; omega)
   rcases this with h | h
   ·omega
   ·simpa [List.getD_eq_getElem?_getD, hj] using h
 ·rintro ⟨D, rfl, h⟩
  refine ⟨⟨by simp, rfl⟩, fun i hi => ?_⟩
  rcases i with _ | i
  ·exact .inl rfl
  ·refine .inr ?_
   have hi' : i < D.length := by simpa using hi
   have := h D[i] (List.getElem_mem hi')
   simpa [List.getD_eq_getElem?_getD, hi'] using this
theorem pl_split {t : Tree} {s : Shape} {k : Nat} : plOkF t s k = true ↔ ∃ D, s.mo.getD k [] = [(k : Int)] :: D ∧ (∀ c ∈ D, classF t c s.has k = true) ∧ ((s.mo.getD k []).flatten.length = wantF t s k ∧ (listN (ofF (s.mo.getD k []).flatten)).length = wantF t s k) := by
 simp only [plOkF, Bool.and_eq_true, Bool.not_eq_true', decide_eq_false_iff_not, decide_eq_true_eq, List.all_eq_true, classS_eq]
 generalize s.mo.getD k [] = m
 constructor
 ·rintro ⟨⟨⟨⟨h1, h2⟩, h3⟩, h4⟩, h5⟩
  rcases m with _ | ⟨c, D⟩
  ·simp at h1
  ·have e : c = [(k : Int)] := h2
   subst e
   exact ⟨D, rfl, h3, h4, h5⟩
 ·rintro ⟨D, rfl, h3, h4, h5⟩
  exact ⟨⟨⟨⟨by simp, rfl⟩, h3⟩, h4⟩, h5⟩
theorem once_of {t : Tree} (ht : TreeOk t) {s : Shape} (hn : nodesF t s.has = true) {i : Nat} (hi : i < s.has.length) : onceF t s i = true ↔ ((t.at (s.has.getD i 0).toNat).kind = 3 → ((s.mo.getD (t.at (s.has.getD i 0).toNat).loc.toNat []).filter fun c => inL c (s.has.getD i 0)).length = 1) := by
 simp only [onceF, Bool.or_eq_true, Bool.not_eq_true', decide_eq_false_iff_not, decide_eq_true_eq]
 constructor
 ·rintro (h | h) k
  ·exact absurd k h
  ·exact h
 ·intro h
  by_cases k : (t.at (s.has.getD i 0).toNat).kind = 3
  ·exact .inr (h k)
  ·exact .inl k
theorem may_eq (t : Tree) (ht : TreeOk t) (s : Shape) : (nodesF t s.has && justF t s && placedF t s) = formF t s := by
 cases hn : nodesF t s.has with
 | false => simp [formF, hn]
 | true =>
 obtain ⟨hN, hnd, _⟩ := nodesF_parts hn
 have h64 := ht.n64
 by_cases hm : ¬ s.mo.length = t.locs.length
 ·simp [formF, placedF, hm]
 have hm := Decidable.not_not.1 hm
 rw [Bool.eq_iff_iff]
 simp only [formF, placedF, justF, hn, decide_eq_true hm, Bool.true_and, Bool.and_true, Bool.and_eq_true, decide_eq_true_eq]
 have key : (∀ k, k < s.mo.length → plOkF t s k = true) ↔ ((∀ k, k < s.mo.length → moOkF t s k = true) ∧ ∀ i, i < s.has.length → onceF t s i = true) := by
  have W : ∀ k, k < s.mo.length → ∀ D, s.mo.getD k [] = [(k : Int)] :: D → (∀ c ∈ D, classF t c s.has k = true) →
    (((s.mo.getD k []).flatten.length = wantF t s k ∧ (listN (ofF (s.mo.getD k []).flatten)).length = wantF t s k) ↔ ∀ n ∈ s.has, writeF t s.has n k = true → ((s.mo.getD k []).filter fun c => inL c n).length = 1) := by
   intro k hk D hD hc
   have hk' : k < t.locs.length := by omega
   have hin := init_in ht hn hk'
   have hwk : writeF t s.has k k = true := by
    simp only [writeF, isWF, Bool.and_eq_true, decide_eq_true_eq, Int.toNat_natCast]
    exact ⟨inL_iff.2 hin, (ht.init k hk').kind, (ht.init k hk').loc⟩
   have hcw : ∀ c ∈ s.mo.getD k [], c.Nodup ∧ ∀ n ∈ c, writeF t s.has n k = true := by
    intro c hcm
    rw [hD] at hcm
    rcases List.mem_cons.1 hcm with rfl | h
    ·refine ⟨by simp, fun n hn => ?_⟩
     rw [List.mem_singleton.1 hn]; exact hwk
    ·exact classF_parts (hc c h)
   have hsub : ∀ x ∈ (s.mo.getD k []).flatten, x ∈ s.has.filter fun n => writeF t s.has n k := by
    intro x hx
    obtain ⟨c, hc1, hc2⟩ := List.mem_flatten.1 hx
    have := (hcw c hc1).2 x hc2
    refine List.mem_filter.2 ⟨?_, this⟩
    simp only [writeF, Bool.and_eq_true] at this
    exact inL_iff.1 this.1
   have hNa : NodeL t (s.mo.getD k []).flatten := fun x hx => hN x (List.mem_filter.1 (hsub x hx)).1
   have := once_iff h64 (W := s.has.filter fun n => writeF t s.has n k) hNa (List.Nodup.sublist List.filter_sublist hnd) hsub
   rw [show wantF t s k = (s.has.filter fun n => writeF t s.has n k).length from rfl, this]
   constructor
   ·intro h n hn1 hn2
    rw [cls_count n _ fun c hc => (hcw c hc).1]
    exact h n (List.mem_filter.2 ⟨hn1, hn2⟩)
   ·intro h n hn1
    obtain ⟨a, b⟩ := List.mem_filter.1 hn1
    rw [← cls_count n _ fun c hc => (hcw c hc).1]
    exact h n a b
  constructor
  ·intro h
   refine ⟨fun k hk => ?_, fun i hi => ?_⟩
   ·obtain ⟨D, hD, hc, _⟩ := pl_split.1 (h k hk)
    exact mo_split.2 ⟨D, hD, hc⟩
   ·rw [once_of ht hn hi]
    intro k3
    have hmem : s.has.getD i 0 ∈ s.has := getD_mem' hi
    obtain ⟨m, hm1, hm2⟩ := nodeF_nat (hN _ hmem)
    rw [hm1, Int.toNat_natCast] at k3 ⊢
    obtain ⟨l1, l2⟩ := ht.wloc hm2 (.inr k3)
    obtain ⟨lc, hlc⟩ := Int.eq_ofNat_of_zero_le l1
    rw [hlc, Int.toNat_natCast]
    have hk : lc < s.mo.length := by omega
    obtain ⟨D, hD, hc, hl⟩ := pl_split.1 (h lc hk)
    refine (W lc hk D hD hc).1 hl m (hm1 ▸ hmem) ?_
    simp only [writeF, isWF, Bool.and_eq_true, decide_eq_true_eq, Int.toNat_natCast]
    exact ⟨inL_iff.2 (hm1 ▸ hmem), k3, hlc⟩
  ·rintro ⟨h1, h2⟩ k hk
   obtain ⟨D, hD, hc⟩ := mo_split.1 (h1 k hk)
   refine pl_split.2 ⟨D, hD, hc, (W k hk D hD hc).2 fun n hn1 hn2 => ?_⟩
   obtain ⟨i, hi, rfl⟩ := List.mem_iff_getElem.1 hn1
   have e : s.has.getD i 0 = s.has[i] := by rw [List.getD_eq_getElem?_getD, List.getElem?_eq_getElem hi]; rfl
   have := (once_of ht hn hi).1 (h2 i hi)
   rw [e] at this
   simp only [writeF, isWF, Bool.and_eq_true, decide_eq_true_eq] at hn2
   have h3 := this hn2.2.1
   rw [hn2.2.2, Int.toNat_natCast] at h3
   exact h3
 rw [all_range_iff, all_range_iff (n := s.mo.length), key, all_range_iff, all_range_iff]
 constructor
 ·rintro ⟨⟨a, b⟩, c, d⟩; exact ⟨⟨⟨a, b⟩, c⟩, d⟩
 ·rintro ⟨⟨⟨a, b⟩, c⟩, d⟩; exact ⟨⟨a, b⟩, c, d⟩
end Go.AM

namespace Go.AM
open Go Go.Proofs
/-- A relation of nodes, as rows. -/
def relL (n : Nat) (p : Nat → Nat → Bool) : Rows := (List.range n).map fun a => setF fun b => decide (b < n) && p a b
theorem relL_get {n : Nat} {p : Nat → Nat → Bool} {a : Nat} (h : a < n) : (relL n p)[a]? = some (setF fun b => decide (b < n) && p a b) := by simp [relL, h]
theorem relL_has {n : Nat} {p : Nat → Nat → Bool} {a b : Nat} (hn : n ≤ 64) (h : a < n) (hb : b < n) : hasF ((relL n p).getD a 0#64) (b : Int) = p a b := by
 rw [List.getD_eq_getElem?_getD, relL_get h, Option.getD_some, hasF_nat, setF_bit, decide_eq_true hb, decide_eq_true (show b < 64 by omega)]
 simp
end Go.AM
