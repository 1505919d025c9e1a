/-
  Own work, part of the proof of CoheWalked: what functions compute (first part).
-/
import Derived.Test.YtpcpldaangchaaaGreatDoorCoF
import Derived.Test.YtpcpldaangchaaaGreatDoorPl
set_option maxRecDepth 4000
set_option linter.unusedVariables false
set_option linter.unusedSimpArgs false
set_option linter.unusedSectionVars false
set_option linter.unnecessarySimpa false
namespace Go.AM
open Go Go.Proofs
section
variable {V : Al} (C : AB V) {Q : VV → Prop}
include C
theorem J4 (i : Int) : VP V A2i [.i .i64 i] Q ↔ Q (vW (Cy i)) := by
 refine Aa ?_
 rw [A9 C.c_z64.1 C.c_z64.2]
 unfold Cy
 by_cases h0 : i < 0
 ·simp only [Va, Rc, go_sem, ↓reduceIte, h0]
  rw [if_neg (by omega)]
 ·by_cases h1 : 64 ≤ i
  ·simp only [Va, Rc, go_sem, ↓reduceIte, h0, h1]
   rw [if_neg (by omega)]
  ·obtain ⟨n, rfl⟩ := Int.eq_ofNat_of_zero_le (by omega : 0 ≤ i)
   simp only [Va, Rc, go_sem, ↓reduceIte, h0, h1, Aa7 (show n < 64 by omega)]
   rw [if_pos (by omega)]
theorem AJ (s : BitVec 64) (i : Int) : VP V A1H [vW s, .i .i64 i] Q ↔ Q (.b (BR s i)) := by
 refine Aa ?_
 rw [A9 C.c_z27.1 C.c_z27.2]
 simp only [A6D, A0y, go_sem, ↓reduceIte, J4 C, A82]
theorem Cw (s : BitVec 64) (i : Int) : VP V A2f [vW s, .i .i64 i] Q ↔ Q (vW (s ||| Cy i)) := by
 refine Aa ?_
 rw [A9 C.c_z73.1 C.c_z73.2]
 simp only [A52, A2m, go_sem, ↓reduceIte, J4 C]
theorem KI (s t : BitVec 64) : VP V A0i [vW s, vW t] Q ↔ Q (.b (decide (s &&& ~~~t = 0#64))) := by
 refine Aa ?_
 rw [A9 C.c_z82.1 C.c_z82.2]
 simp only [A58, A1i, go_sem, ↓reduceIte]
theorem HA (xs : List Int) (hl : xs.length < 9223372036854775807) : VP V A0j [lI xs] Q ↔ Q (vW (Cg xs)) := by
 refine Aa ?_
 rw [A9 C.c_z40.1 C.c_z40.2]
 simp only [A6l, Rx, go_sem, ↓reduceIte]
 refine Ac (by decide) xs.length hl (I := fun k F h => h = [] ∧ A1.tmp F 6 = lI xs ∧ A1.tmp F 3 = vW (Cg (xs.take k))) ?_ ?_ 0 _ _ (by omega) ?_ ?_ ?_
 ·rintro k F h hk h1 h2 ⟨rfl, h3, h4⟩
  simp only [Rx, go_sem, ↓reduceIte, h1, h2, h3, h4, List.getElem?_eq_getElem hk, J4 C]
  rw [List.take_succ_eq_append_getElem hk]
  simp only [Cg, List.foldl_append, List.foldl_cons, List.foldl_nil]
 ·rintro F h ⟨rfl, h3, h4⟩
  rw [List.take_length] at h4
  simp only [Rx, go_sem, ↓reduceIte, h4]
 all_goals simp only [go_sem, ↓reduceIte]
 all_goals rfl
theorem M9 (lo hi : Int) (hlo : lo < 9223372036854775808) : VP V NW [.i .i64 lo, .i .i64 hi] Q ↔ Q (vW (Eu lo hi)) := by
 refine Aa ?_
 rw [A9 C.c_z107.1 C.c_z107.2]
 have hm : TP false hi 64 = min hi 64 := by unfold TP; simp only [cond_false]; split <;> omega
 have hm0 : TP true lo 0 = max lo 0 := by unfold TP; simp only [cond_true]; split <;> omega
 simp only [YI, Mp, go_sem, ↓reduceIte]
 unfold VL
 rw [A0]
 refine AQ (M := Nat) (I := fun k F h => h = [] ∧ A1.tmp F 1 = .i .i64 hi ∧ A1.tmp F 6 = .i .i64 k ∧ A1.tmp F 5 = vW (BA fun i => decide (lo ≤ (i : Int) ∧ i < k)) ∧ lo ≤ k ∧ (k : Int) ≤ max lo (max 0 (min hi 64))) (μ := fun k => 64 - k) ?_ (max lo 0).toNat _ _ ⟨rfl, ?_, ?_, ?_, ?_, ?_⟩
 ·rintro k F h ⟨rfl, h1, h2, h3, h4, h5⟩
  by_cases hk : (k : Int) < min hi 64
  ·simp only [Um, Mp, go_sem, ↓reduceIte, h1, h2, h3, hm, hk, A0, J4 C]
   have hw : IntKind.i64.wrap ((k : Int) + 1) = ((k + 1 : Nat) : Int) := by rw [AS (by omega) (by omega)]; omega
   refine ⟨k + 1, by omega, ?_⟩
   rw [hw]
   refine ⟨rfl, ?_, by omega, by omega⟩
   rw [PR _ _ (by omega)]
   congr 1
   apply BP
   intro j hj
   by_cases e : j = k
   ·subst e; simp; omega
   ·by_cases e2 : j < k
    ·have : j < k + 1 := by omega
     simp [e, e2, this]
    ·have : ¬ j < k + 1 := by omega
     simp [e, e2, this]
  ·simp only [Um, Mp, go_sem, ↓reduceIte, h1, h2, h3, hm, hk, Nat.beq_refl]
   congr 1
   apply BP
   intro j hj
   by_cases e : lo ≤ (j : Int)
   ·have : (j < k) ↔ ((j : Int) < hi) := by omega
    simp [e, this]
   ·simp [e]
 ·simp only [go_sem, ↓reduceIte]
 ·simp only [go_sem, ↓reduceIte, hm0]
  omega
 ·simp only [go_sem, ↓reduceIte]
  rw [← Hn]
  congr 1
  apply BP
  intro j hj
  simp
  omega
 ·omega
 ·omega
theorem PY (xs : List Int) (i : Int) (hl : xs.length < 1000) {Q : VV → VH → Prop} : Ma V Mv [.p 1 0 0 0, .i .i64 i] [some (AL Bj 1 (xs.map eI)), some ⟨Gb, 0, 0, false, [[.sl 0 xs.length 0 xs.length]]⟩] Q ↔
  Q (.tu []) [some (AL Bj 1 ((xs ++ [i]).map eI)), some ⟨Gb, 0, 0, false, [[.sl 0 (xs ++ [i]).length 0 (xs ++ [i]).length]]⟩] := by
 refine PA ?_
 rw [Ha C.h_z116]
 have h1 : (xs.length + 1) * 8 ≤ A6 := by unfold A6; omega
 simp only [YQ, NP, go_sem, ↓reduceIte, h1]
theorem Ahc (s : BitVec 64) (h : s ≠ 0#64) : VP V AH [vW s] Q ↔ Q (.i .i64 (Lib.ctz 64 s.toNat : Nat)) := by
 refine Aa ?_
 unfold VP
 rw [C.c_mathbits_TrailingZeros64]
 have := s.isLt
 refine ⟨.i .i64 (Lib.ctz 64 s.toNat : Nat), ?_, rfl, rfl⟩
 unfold Yi vW
 simp only
 rw [if_pos (by omega), Int.toNat_natCast]
/-- What is added for each that a set has. -/
theorem Vi (s : BitVec 64) : Ma V JU [vW s, .f Mv [.p 1 0 0 0] []] [some Lc, some ⟨Gb, 0, 0, false, [[.sl 0 0 0 0]]⟩]
  fun _ h => h = [some (AL Bj 1 ((AK s).map eI)), some ⟨Gb, 0, 0, false, [[.sl 0 (AK s).length 0 (AK s).length]]⟩] := by
 rw [Ha C.h_z115]
 simp only [Mh, J8, go_sem, ↓reduceIte]
 unfold VL
 rw [A0]
 refine AQ (M := BitVec 64 × List Nat) (I := fun x F h => A1.tmp F 0 = vW x.1 ∧ A1.tmp F 1 = .f Mv [.p 1 0 0 0] [] ∧ x.2 ++ Bx x.1 = Bx s ∧ h = [some (AL Bj 1 ((x.2.map fun (i : Nat) => (i : Int)).map eI)), some ⟨Gb, 0, 0, false, [[.sl 0 x.2.length 0 x.2.length]]⟩]) (μ := fun x => (Bx x.1).length) ?_ (s, []) _ _ ⟨?_, ?_, rfl, rfl⟩
 ·rintro ⟨t, l⟩ F h ⟨h1, h2, h3, rfl⟩
  simp only at h1 h2 h3 ⊢
  by_cases ht : t = 0#64
  ·subst ht
   rw [Zg, List.append_nil] at h3
   simp only [J8, go_sem, ↓reduceIte, h1, h2, AK, h3]
  ·have hs := ZH ht
   have hl : l.length < 1000 := by
    have := congrArg List.length h3
    have h4 := Dw s
    simp only [AK, List.length_map, List.length_append] at this h4
    omega
   have hx := fun Q => PY C (l.map fun (i : Nat) => (i : Int)) (Lib.ctz 64 t.toNat : Nat) (by simpa using hl) (Q := Q)
   simp only [List.length_map, List.length_append, List.length_cons, List.length_nil] at hx
   simp only [J8, go_sem, ↓reduceIte, h1, h2, ht, A0, Ahc C t ht]
   rw [hx]
   refine ⟨?_, (t &&& (t - 1#64), l ++ [Lib.ctz 64 t.toNat]), ?_, rfl, ?_, ?_⟩
   ·simp only [go_sem]
   ·rw [hs]; simp
   ·rw [← h3, hs]; simp
   ·simp
 all_goals simp only [go_sem]
theorem Dr (s : BitVec 64) : VP V A1G [vW s] Q ↔ Q (lI (AK s)) := by
 refine Aa ?_
 rw [A9 C.c_z74.1 C.c_z74.2]
 simp only [A5U, VQ, go_sem, ↓reduceIte, Q8]
 obtain ⟨vf, h1, h2⟩ := Vi C s
 refine ⟨vf, h1, h2.mono ?_⟩
 rintro v _ rfl
 simp only [VQ, go_sem, ↓reduceIte]
theorem Bo (xs : List Int) (n : Int) (hl : xs.length < 9223372036854775807) : VP V A0p [lI xs, .i .i64 n] Q ↔ Q (.i .i64 (Ci (fun y => decide (n = y)) xs)) := by
 refine Aa ?_
 rw [A9 C.c_z41.1 C.c_z41.2]
 simp only [A5e, Q9, go_sem, ↓reduceIte]
 refine Ac (by decide) xs.length hl (I := fun k F h => h = [] ∧ A1.tmp F 0 = lI xs ∧ A1.tmp F 1 = .i .i64 n ∧ ∀ (j : Nat) (hj : j < xs.length), j < k → ¬ n = xs[j]) ?_ ?_ 0 _ _ (by omega) ?_ ?_ ?_
 ·rintro k F h hk h1 h2 ⟨rfl, h3, h4, h5⟩
  by_cases e : n = xs[k]
  ·subst e
   simp only [Q9, go_sem, ↓reduceIte, h1, h2, h3, h4, List.getElem?_eq_getElem hk]
   rw [D4 hk (by simp) fun j hj => by simpa using h5 j (by omega) hj]
  ·simp only [Q9, go_sem, ↓reduceIte, h1, h2, h3, h4, List.getElem?_eq_getElem hk, e]
   intro j hj hjk
   by_cases e2 : j = k
   ·subst e2; exact e
   ·exact h5 j hj (by omega)
 ·rintro F h ⟨rfl, h3, h4, h5⟩
  simp only [Q9, go_sem, ↓reduceIte]
  rw [Dp fun x hx => by obtain ⟨j, hj, e⟩ := List.mem_iff_getElem.1 hx; rw [← e]; simpa using h5 j hj hj]
 all_goals simp only [go_sem, ↓reduceIte]
 all_goals first | rfl | (intro j hj hjk; omega)
theorem G3 (xs : List Int) (n : Int) (hl : xs.length < 9223372036854775807) : VP V A0e [lI xs, .i .i64 n] Q ↔ Q (.b (xs.any fun y => decide (n = y))) := by
 refine Aa ?_
 rw [A9 C.c_z44.1 C.c_z44.2]
 simp only [A4h, A1g, go_sem, ↓reduceIte, Bo C _ _ hl, Ki]
theorem Ek (xs : List ByteArray) (n : ByteArray) (hl : xs.length < 9223372036854775807) : VP V SL [lS xs, .s n] Q ↔ Q (.i .i64 (Ci (fun y => decide (n = y)) xs)) := by
 refine Aa ?_
 rw [A9 C.c_z149.1 C.c_z149.2]
 simp only [XZ, L9, go_sem, ↓reduceIte]
 refine Ac (by decide) xs.length hl (I := fun k F h => h = [] ∧ A1.tmp F 0 = lS xs ∧ A1.tmp F 1 = .s n ∧ ∀ (j : Nat) (hj : j < xs.length), j < k → ¬ n = xs[j]) ?_ ?_ 0 _ _ (by omega) ?_ ?_ ?_
 ·rintro k F h hk h1 h2 ⟨rfl, h3, h4, h5⟩
  by_cases e : n = xs[k]
  ·subst e
   simp only [L9, go_sem, ↓reduceIte, h1, h2, h3, h4, List.getElem?_eq_getElem hk]
   rw [D4 hk (by simp) fun j hj => by simpa using h5 j (by omega) hj]
  ·simp only [L9, go_sem, ↓reduceIte, h1, h2, h3, h4, List.getElem?_eq_getElem hk, e]
   intro j hj hjk
   by_cases e2 : j = k
   ·subst e2; exact e
   ·exact h5 j hj (by omega)
 ·rintro F h ⟨rfl, h3, h4, h5⟩
  simp only [L9, go_sem, ↓reduceIte]
  rw [Dp fun x hx => by obtain ⟨j, hj, e⟩ := List.mem_iff_getElem.1 hx; rw [← e]; simpa using h5 j hj hj]
 all_goals simp only [go_sem, ↓reduceIte]
 all_goals first | rfl | (intro j hj hjk; omega)
theorem DH (xs : List ByteArray) (n : ByteArray) (hl : xs.length < 9223372036854775807) : VP V Ss [lS xs, .s n] Q ↔ Q (.b (xs.any fun y => decide (n = y))) := by
 refine Aa ?_
 rw [A9 C.c_z121.1 C.c_z121.2]
 simp only [Y3, Uy, go_sem, ↓reduceIte, Ek C _ _ hl, Ki]
theorem Dy (xs : List (BitVec 64)) (hl : xs.length < 9223372036854775807) {g : Nat} {a c : List VV} (ha : Fz a) (hc : Fz c) (p : (BitVec 64) → Bool) (hf : ∀ x, VP V g (a ++ [vW x] ++ c) fun r => r = .b (p x)) :
  VP V Uh [lW xs, .f g a c] Q ↔ Q (.i .i64 (Ci p xs)) := by
 refine Aa ?_
 rw [A9 C.c_z142.1 C.c_z142.2]
 simp only [ZB, Lb, go_sem, ↓reduceIte]
 refine Ac (by decide) xs.length hl (I := fun k F h => h = [] ∧ A1.tmp F 0 = lW xs ∧ A1.tmp F 1 = .f g a c ∧ ∀ (j : Nat) (hj : j < xs.length), j < k → p xs[j] = false) ?_ ?_ 0 _ _ (by omega) ?_ ?_ ?_
 ·rintro k F h hk h1 h2 ⟨rfl, h3, h4, h5⟩
  have hq := fun Q => Aa (hf xs[k]) (Q := Q)
  have hfz := ha.call hc (h := []) (x := [vW xs[k]]) rfl
  cases e : p xs[k] with
  | true =>
   simp only [Lb, go_sem, ↓reduceIte, h1, h2, h3, h4, List.getElem?_eq_getElem hk, hfz, hq, e]
   rw [D4 hk e fun j hj => h5 j (by omega) hj]
  | false =>
   simp only [Lb, go_sem, ↓reduceIte, h1, h2, h3, h4, List.getElem?_eq_getElem hk, hfz, hq, e]
   have hcl : LJ 0 (.f g a c) = .f g a c := by
    have h1 : Cn 0 a = true := Fz.bel ha
    have h2 : Cn 0 c = true := Fz.bel hc
    simp [LJ, bel, h1, h2]
   simp only [A6S, Fz.bel ha, Fz.bel hc, Bool.and_self, cond_true, true_and]
   intro j hj hjk
   by_cases e2 : j = k
   ·subst e2; exact e
   ·exact h5 j hj (by omega)
 ·rintro F h ⟨rfl, h3, h4, h5⟩
  simp only [Lb, go_sem, ↓reduceIte]
  rw [Dp fun x hx => by obtain ⟨j, hj, e⟩ := List.mem_iff_getElem.1 hx; rw [← e]; exact h5 j hj hj]
 all_goals simp only [go_sem, ↓reduceIte]
 all_goals first | rfl | (intro j hj hjk; omega)
theorem Db (xs : List (BitVec 64)) (hl : xs.length < 9223372036854775807) {g : Nat} {a c : List VV} (ha : Fz a) (hc : Fz c) (p : (BitVec 64) → Bool) (hf : ∀ x, VP V g (a ++ [vW x] ++ c) fun r => r = .b (p x)) :
  VP V SQ [lW xs, .f g a c] Q ↔ Q (.b (xs.any p)) := by
 refine Aa ?_
 rw [A9 C.c_z108.1 C.c_z108.2]
 simp only [Yr, Td, go_sem, ↓reduceIte, Dy C xs hl ha hc p hf, Fz.eq ha, Fz.eq hc, Ki]
theorem EJ (xs : List Int) (hl : xs.length < 9223372036854775807) {g : Nat} {a c : List VV} (ha : Fz a) (hc : Fz c) (p : Int → Bool) (hf : ∀ x, VP V g (a ++ [.i .i64 x] ++ c) fun r => r = .b (p x)) :
  VP V TD [lI xs, .f g a c] Q ↔ Q (.i .i64 (Ci p xs)) := by
 refine Aa ?_
 rw [A9 C.c_z165.1 C.c_z165.2]
 simp only [XC, KQ, go_sem, ↓reduceIte]
 refine Ac (by decide) xs.length hl (I := fun k F h => h = [] ∧ A1.tmp F 0 = lI xs ∧ A1.tmp F 1 = .f g a c ∧ ∀ (j : Nat) (hj : j < xs.length), j < k → p xs[j] = false) ?_ ?_ 0 _ _ (by omega) ?_ ?_ ?_
 ·rintro k F h hk h1 h2 ⟨rfl, h3, h4, h5⟩
  have hq := fun Q => Aa (hf xs[k]) (Q := Q)
  have hfz := ha.call hc (h := []) (x := [.i .i64 xs[k]]) rfl
  cases e : p xs[k] with
  | true =>
   simp only [KQ, go_sem, ↓reduceIte, h1, h2, h3, h4, List.getElem?_eq_getElem hk, hfz, hq, e]
   rw [D4 hk e fun j hj => h5 j (by omega) hj]
  | false =>
   simp only [KQ, go_sem, ↓reduceIte, h1, h2, h3, h4, List.getElem?_eq_getElem hk, hfz, hq, e]
   have hcl : LJ 0 (.f g a c) = .f g a c := by
    have h1 : Cn 0 a = true := Fz.bel ha
    have h2 : Cn 0 c = true := Fz.bel hc
    simp [LJ, bel, h1, h2]
   simp only [A6S, Fz.bel ha, Fz.bel hc, Bool.and_self, cond_true, true_and]
   intro j hj hjk
   by_cases e2 : j = k
   ·subst e2; exact e
   ·exact h5 j hj (by omega)
 ·rintro F h ⟨rfl, h3, h4, h5⟩
  simp only [KQ, go_sem, ↓reduceIte]
  rw [Dp fun x hx => by obtain ⟨j, hj, e⟩ := List.mem_iff_getElem.1 hx; rw [← e]; exact h5 j hj hj]
 all_goals simp only [go_sem, ↓reduceIte]
 all_goals first | rfl | (intro j hj hjk; omega)
theorem Ea (xs : List Int) (hl : xs.length < 9223372036854775807) {g : Nat} {a c : List VV} (ha : Fz a) (hc : Fz c) (p : Int → Bool) (hf : ∀ x, VP V g (a ++ [.i .i64 x] ++ c) fun r => r = .b (p x)) :
  VP V UD [lI xs, .f g a c] Q ↔ Q (.b (xs.any p)) := by
 refine Aa ?_
 rw [A9 C.c_z151.1 C.c_z151.2]
 simp only [Y4, TY, go_sem, ↓reduceIte, EJ C xs hl ha hc p hf, Fz.eq ha, Fz.eq hc, Ki]
theorem Em (xs : List (List Int)) (hl : xs.length < 9223372036854775807) {g : Nat} {a c : List VV} (ha : Fz a) (hc : Fz c) (p : List Int → Bool) (hf : ∀ x ∈ xs, VP V g (a ++ [lI x] ++ c) fun r => r = .b (p x)) :
  VP V A1k [.ls (xs.map NI), .f g a c] Q ↔ Q (.i .i64 (Ci p xs)) := by
 refine Aa ?_
 rw [A9 C.c_z42.1 C.c_z42.2]
 simp only [A6y, Qf, go_sem, ↓reduceIte]
 refine Ac (by decide) xs.length hl (I := fun k F h => h = [] ∧ A1.tmp F 0 = .ls (xs.map NI) ∧ A1.tmp F 1 = .f g a c ∧ ∀ (j : Nat) (hj : j < xs.length), j < k → p xs[j] = false) ?_ ?_ 0 _ _ (by omega) ?_ ?_ ?_
 ·rintro k F h hk h1 h2 ⟨rfl, h3, h4, h5⟩
  have hq := fun Q => Aa (hf xs[k] (List.getElem_mem hk)) (Q := Q)
  have hfz := ha.call hc (h := []) (x := [lI (xs[k])]) rfl
  cases e : p xs[k] with
  | true =>
   simp only [Qf, go_sem, ↓reduceIte, h1, h2, h3, h4, List.getElem?_eq_getElem hk, hfz, hq, e]
   rw [D4 hk e fun j hj => h5 j (by omega) hj]
  | false =>
   simp only [Qf, go_sem, ↓reduceIte, h1, h2, h3, h4, List.getElem?_eq_getElem hk, hfz, hq, e]
   have hcl : LJ 0 (.f g a c) = .f g a c := by
    have h1 : Cn 0 a = true := Fz.bel ha
    have h2 : Cn 0 c = true := Fz.bel hc
    simp [LJ, bel, h1, h2]
   simp only [A6S, Fz.bel ha, Fz.bel hc, Bool.and_self, cond_true, true_and]
   intro j hj hjk
   by_cases e2 : j = k
   ·subst e2; exact e
   ·exact h5 j hj (by omega)
 ·rintro F h ⟨rfl, h3, h4, h5⟩
  simp only [Qf, go_sem, ↓reduceIte]
  rw [Dp fun x hx => by obtain ⟨j, hj, e⟩ := List.mem_iff_getElem.1 hx; rw [← e]; exact h5 j hj hj]
 all_goals simp only [go_sem, ↓reduceIte]
 all_goals first | rfl | (intro j hj hjk; omega)
theorem Pr (xs ys : List Int) (hl : xs.length < 9223372036854775807) : VP V V4 [lI xs, lI ys] Q ↔ Q (.b (decide (xs = ys))) := by
 refine Aa ?_
 rw [A9 C.c_z45.1 C.c_z45.2]
 by_cases hxy : xs.length = ys.length
 ·simp only [A1y, Nc, go_sem, ↓reduceIte, hxy]
  refine Ac (by decide) ys.length (by omega) (I := fun k F h => h = [] ∧ A1.tmp F 0 = lI xs ∧ A1.tmp F 1 = lI ys ∧ ∀ (j : Nat) (hj : j < xs.length) (hj' : j < ys.length), j < k → xs[j] = ys[j]) ?_ ?_ 0 _ _ (by omega) ?_ ?_ ?_
  ·rintro k F h hk h1 h2 ⟨rfl, h3, h4, h5⟩
   have hk' : k < xs.length := by omega
   by_cases e : xs[k] = ys[k]
   ·simp only [Nc, go_sem, ↓reduceIte, h1, h2, h3, h4, List.getElem?_eq_getElem hk, List.getElem?_eq_getElem hk', e]
    intro j hj hj' hjk
    by_cases e2 : j = k
    ·subst e2; exact e
    ·exact h5 j hj hj' (by omega)
   ·simp only [Nc, go_sem, ↓reduceIte, h1, h2, h3, h4, List.getElem?_eq_getElem hk, List.getElem?_eq_getElem hk', e]
    refine (decide_eq_false ?_).symm
    rintro rfl
    exact e rfl
  ·rintro F h ⟨rfl, h3, h4, h5⟩
   simp only [Nc, go_sem, ↓reduceIte]
   exact (decide_eq_true (List.ext_getElem hxy fun j hj hj' => h5 j hj hj' hj')).symm
  all_goals simp only [go_sem, ↓reduceIte]
  all_goals first | rfl | (intro j hj hj' hjk; omega)
 ·simp only [A1y, Nc, go_sem, ↓reduceIte, Int.natCast_inj, hxy]
  refine (decide_eq_false ?_).symm
  rintro rfl
  exact hxy rfl
end
end Go.AM

namespace Go.AM
open Go Go.Proofs
@[go_sem] theorem A3p {n k : Nat} {f : Nat → BitVec 64} {z : BitVec 64} : ((CH n k f z).map eW).set k [vW (f k)] = (CH n (k + 1) f z).map eW := M7 eW
@[go_sem] theorem AcS {n k : Nat} {f : Nat → Int} {z : Int} : ((CH n k f z).map eI).set k [.i .i64 (f k)] = (CH n (k + 1) f z).map eI := M7 eI
@[go_sem] theorem AcL {α : Type} {n k : Nat} {f : Nat → α} {z : α} : (CH n k f z).take n = CH n k f z := by rw [List.take_of_length_le]; rw [Pe]; exact Nat.le_refl n
attribute [go_sem] Pe List.length_range
@[go_sem] theorem A9I (n : Nat) : (List.range n).take n = List.range n := by rw [List.take_of_length_le]; simp
@[go_sem] theorem AkE (n : Nat) (w : BitVec 64) : List.replicate n [vW w] = (List.replicate n w).map eW := by simp
@[go_sem] theorem Akl (n : Nat) (w : Int) : List.replicate n [VV.i .i64 w] = (List.replicate n w).map eI := by simp
abbrev eP (p : Int × Int) : List VV := [.i .i64 p.1, .i .i64 p.2]
abbrev lP (l : List (Int × Int)) : VV := .ls (l.map eP)
@[go_sem] theorem AiL (xs : List (Int × Int)) (x y : Int) : xs.map eP ++ [[.i .i64 x, .i .i64 y]] = (xs ++ [(x, y)]).map eP := by simp
theorem Fz.of {a : List VV} (h : ∀ h d, Bb (frz h (d + 3)) a = some (a, [])) : Fz a := h
section
variable {V : Al} (C : AB V) {Q : VV → Prop}
include C
theorem US (x all : BitVec 64) : VP V PD [vW x, .fp [vW all] 0] Q ↔ Q (.b (!decide (x &&& ~~~all = 0#64))) := by
 refine Aa ?_
 rw [A9 C.c_z109.1 C.c_z109.2]
 simp only [A03, T7, go_sem, ↓reduceIte, KI C]
theorem Dv (r : Rows) : VP V Vd [lW r] Q ↔ Q (.b (DQ r)) := by
 refine Aa ?_
 rw [A9 C.c_z66.1 C.c_z66.2]
 by_cases hl : r.length ≤ 64
 ·have hl' : ¬ (64 : Int) < r.length := by omega
  simp only [A1R, WD, go_sem, ↓reduceIte, hl', M9 C 0 _ (by omega),
   Db C r (by omega) (g := PD) (a := []) (c := [.fp [vW (Eu 0 r.length)] 0]) Fz.nil (fun _ _ => rfl) (fun x => !decide (x &&& ~~~(Eu 0 r.length) = 0#64)) (fun x => (US C _ _).2 rfl)]
  simp only [DQ, hl, go_sem, List.not_any_eq_all_not, Bool.not_not]
 ·have hl' : (64 : Int) < r.length := by omega
  simp only [A1R, WD, go_sem, ↓reduceIte, hl', Bool.true_eq_false]
  simp [DQ, hl]
theorem YP {n : Nat} (hl : n ≤ 1000) {gf : Nat} {a c : List VV} (ha : Fz a) (hc : Fz c) (row : Nat → BitVec 64)
  (hp : ∀ (i : Nat), i < n → VP V gf (a ++ [.i .i64 (i : Nat)] ++ c) fun r => r = vW (row i)) :
  VP V Xw [.i .i64 n, .f gf a c] Q ↔ Q (lW ((List.range n).map row)) := by
 refine Aa ?_
 rw [A9 C.c_z98.1 C.c_z98.2]
 have h0 : n * 8 ≤ A6 := by unfold A6; omega
 simp only [A20, M5, go_sem, ↓reduceIte, h0, Int.le_refl]
 refine Ac (by decide) n (by omega) (I := fun k F h => A1.tmp F 1 = .f gf a c ∧ A1.tmp F 5 = .sl 0 0 0 n ∧ h = [some ⟨Cm, 1, 0, false, (CH n k row 0#64).map eW⟩]) ?_ ?_ 0 _ _ (by omega) ?_ ?_ ?_
 ·rintro k F h hk h1 h2 ⟨h3, h4, rfl⟩
  have hq := fun Q => Aa (hp k hk) (Q := Q)
  have hfz := ha.call hc (h := [some ⟨Cm, 1, 0, false, (CH n k row 0#64).map eW⟩]) (x := [.i .i64 (k : Nat)]) rfl
  simp only [M5, go_sem, ↓reduceIte, h1, h2, h3, h4, hk, hfz, hq, JO hk, Fz.bel ha, Fz.bel hc]
 ·rintro F h ⟨h3, h4, rfl⟩
  simp only [M5, go_sem, ↓reduceIte, h4, Hm]
 all_goals simp only [go_sem, ↓reduceIte]
 all_goals first | rfl | rw [ER]
theorem Wq {n : Nat} (hl : n ≤ 1000) {gf : Nat} {a c : List VV} (ha : Fz a) (hc : Fz c) (row : Nat → BitVec 64) (b0 : Nat) {Q' : VV → VH → Prop}
  (hp : ∀ (i : Nat), i < n → VP V gf (a ++ [.i .i64 (i : Nat)] ++ c) fun r => r = vW (row i)) :
  VP1 V Xw [.i .i64 n, .f gf a c] b0 Q' ↔ Q' (.sl b0 0 0 n) [some ⟨Cm, 1, 0, false, ((List.range n).map row).map eW⟩] := by
 refine MU ?_
 rw [MG C.c_z98.2]
 have h0 : n * 8 ≤ A6 := by unfold A6; omega
 simp only [A20, M5, go_sem, ↓reduceIte, h0, Int.le_refl]
 refine Ac (by decide) n (by omega) (I := fun k F h => A1.tmp F 1 = .f gf a c ∧ A1.tmp F 5 = .sl 0 0 0 n ∧ h = [some ⟨Cm, 1, 0, false, (CH n k row 0#64).map eW⟩]) ?_ ?_ 0 _ _ (by omega) ?_ ?_ ?_
 ·rintro k F h hk h1 h2 ⟨h3, h4, rfl⟩
  have hq := fun Q => Aa (hp k hk) (Q := Q)
  have hfz := ha.call hc (h := [some ⟨Cm, 1, 0, false, (CH n k row 0#64).map eW⟩]) (x := [.i .i64 (k : Nat)]) rfl
  simp only [M5, go_sem, ↓reduceIte, h1, h2, h3, h4, hk, hfz, hq, JO hk, Fz.bel ha, Fz.bel hc]
 ·rintro F h ⟨h3, h4, rfl⟩
  simp only [M5, go_sem, ↓reduceIte, h4, Hm, Bh]
  simp
 all_goals simp only [go_sem, ↓reduceIte]
 all_goals first | rfl | rw [ER]
theorem JP (a b : Rows) : VP V SH [.ag [lW a, lW b]] Q ↔ Q (.b (DQ a && DQ b && decide (a.length = b.length))) := by
 refine Aa ?_
 rw [A9 C.c_z140.1 C.c_z140.2]
 cases hma : DQ a <;> cases hmb : DQ b <;>
  simp only [Y6, Tb, go_sem, ↓reduceIte, Dv C, hma, hmb, Int.natCast_inj]
omit C in
theorem G7 {a : Rows} {i : Nat} (h : i < a.length) : a[i]? = some (a.getD i 0#64) := by rw [A8j h, List.getElem?_eq_getElem h]
theorem R9 (a b : Rows) {i : Nat} (hi : i < a.length) (hi' : i < b.length) : VP V WH [.ag [lW a, lW b], .i .i64 i] Q ↔ Q (vW (a.getD i 0#64 ||| b.getD i 0#64)) := by
 refine Aa ?_
 rw [A9 C.c_z97.1 C.c_z97.2]
 simp only [A63, A2c, go_sem, ↓reduceIte, G7 hi, G7 hi']
theorem NA (a b : Rows) {gf : Nat} {fa fc : List VV} (ha : Fz fa) (hc : Fz fc) (row : Nat → BitVec 64)
  (hp : a.length = b.length → a.length ≤ 64 → ∀ (i : Nat), i < a.length → VP V gf (fa ++ [.i .i64 (i : Nat)] ++ fc) fun r => r = vW (row i)) :
  VP V A08 [.ag [lW a, lW b], .f gf fa fc] Q ↔ Q (lW (if DQ a && DQ b && decide (a.length = b.length) then (List.range a.length).map row else [])) := by
 refine Aa ?_
 rw [A9 C.c_z96.1 C.c_z96.2]
 cases hm : (DQ a && DQ b && decide (a.length = b.length)) with
 | false => simp only [A1O, WR, go_sem, ↓reduceIte, JP C, hm, Bool.false_eq_true]
 | true =>
  have hm' := hm
  simp only [Bool.and_eq_true, decide_eq_true_eq] at hm'
  have hl := M6 hm'.1.1
  simp only [A1O, WR, go_sem, ↓reduceIte, JP C, hm, YP C (show a.length ≤ 1000 by omega) ha hc row (fun i hi => hp hm'.2 hl i hi), Fz.eq ha, Fz.eq hc]
theorem A4q (a b : Rows) : VP V A1I [lW a, lW b] Q ↔ Q (lW (orF a b)) := by
 refine Aa ?_
 rw [A9 C.c_z56.1 C.c_z56.2]
 simp only [A62, A0s, go_sem, ↓reduceIte,
  NA C a b (gf := WH) (fa := [.ag [lW a, lW b]]) (fc := []) (fun _ _ => rfl) Fz.nil (fun i => a.getD i 0#64 ||| b.getD i 0#64) (fun h1 h2 i hi => (R9 C a b hi (by omega)).2 rfl)]
 rfl
theorem A05 (a : Rows) (hl : a.length ≤ 64) (s : BitVec 64) : VP V Tq [lW a, vW s] Q ↔ Q (vW (DU a s)) := by
 refine Aa ?_
 rw [A9 C.c_z145.1 C.c_z145.2]
 simp only [ZU, MJ, go_sem, ↓reduceIte, M9 C 0 _ (by omega), Dr C]
 have hlen := Dw (s &&& Eu 0 a.length)
 have hmem : ∀ i, i ∈ Bx (s &&& Eu 0 a.length) → i < a.length := by
  intro i hi
  have := (Ps hi).2
  rw [BitVec.getLsbD_and, Eu, AA] at this
  simp at this
  omega
 unfold DU
 unfold AK at hlen ⊢
 generalize Bx (s &&& Eu 0 a.length) = L at *
 refine Ac (by decide) (L.map fun (i : Nat) => (i : Int)).length (by omega) (I := fun k F h => h = [] ∧ A1.tmp F 0 = lW a ∧ A1.tmp F 13 = lI (L.map fun (i : Nat) => (i : Int)) ∧ A1.tmp F 5 = vW ((L.take k).foldl (fun x i => x ||| a.getD i 0#64) 0#64)) ?_ ?_ 0 _ _ (by omega) ?_ ?_ ?_
 ·rintro k F h hk h2 h3 ⟨rfl, h4, h5, h6⟩
  have hk' : k < L.length := by simpa using hk
  simp only [MJ, go_sem, ↓reduceIte, h2, h3, h4, h5, h6, List.getElem?_eq_getElem hk', G7 (hmem _ (List.getElem_mem hk'))]
  rw [List.take_succ_eq_append_getElem hk', List.foldl_append, List.foldl_cons, List.foldl_nil]
 ·rintro F h ⟨rfl, h4, h5, h6⟩
  rw [List.length_map, List.take_length] at h6
  simp only [MJ, go_sem, ↓reduceIte, h6]
 all_goals simp only [go_sem, ↓reduceIte]
 all_goals rfl
theorem Zn (a : Rows) (hm : DQ a = true) (s : BitVec 64) : VP V Uj [lW a, vW s] Q ↔ Q (vW (DU a s)) := by
 refine Aa ?_
 rw [A9 C.c_z114.1 C.c_z114.2]
 simp only [XX, Tn, go_sem, ↓reduceIte, Dv C, hm, A05 C a (M6 hm)]
theorem KK (a : Rows) (hm : DQ a = true) (s : BitVec 64) : VP V Qz [lW a, vW s] Q ↔ Q (vW (DU a s)) := by
 refine Aa ?_
 rw [A9 C.c_z95.1 C.c_z95.2]
 simp only [A6A, A1A, go_sem, ↓reduceIte, Zn C a hm]
theorem QL (a : Rows) (hm : DQ a = true) (s : BitVec 64) : VP V Wn [lW a, vW s, .f Qz [] []] Q ↔ Q (vW (K0 a s)) := by
 refine Aa ?_
 rw [A9 C.c_z94.1 C.c_z94.2]
 simp only [A69, RY, go_sem, ↓reduceIte]
 unfold VL
 rw [A0]
 refine AQ (M := BitVec 64) (I := fun t F h => h = [] ∧ A1.tmp F 0 = lW a ∧ A1.tmp F 1 = vW t ∧ A1.tmp F 2 = .f Qz [] [] ∧ K0 a t = K0 a s) (μ := fun t => 18446744073709551616 - t.toNat) ?_ s _ _ ⟨rfl, ?_, ?_, ?_, rfl⟩
 ·rintro t F h ⟨rfl, h0, h1, h2, h3⟩
  have hs := Zm a t
  by_cases e : t ||| DU a t = t
  ·rw [if_pos e] at hs
   simp only [YH, RY, go_sem, ↓reduceIte, h0, h1, h2, A0, KK C a hm, e]
   rw [← h3, hs]
  ·rw [if_neg e] at hs
   simp only [YH, RY, go_sem, ↓reduceIte, h0, h1, h2, A0, KK C a hm, e]
   have := LW e
   have := (t ||| DU a t).isLt
   exact ⟨t ||| DU a t, by omega, rfl, by rw [← h3, hs]⟩
 all_goals simp only [go_sem, ↓reduceIte]
theorem Ul (a : Rows) : VP V A12 [lW a] Q ↔ Q (lW (GL a)) := by
 refine Aa ?_
 rw [A9 C.c_z55.1 C.c_z55.2]
 cases hm : DQ a with
 | false => simp only [A1V, Qi, go_sem, ↓reduceIte, Dv C, hm, GL, Bool.false_eq_true]
 | true =>
  have hl := M6 hm
  have h0 : a.length * 8 ≤ A6 := by unfold A6; omega
  simp only [A1V, Qi, go_sem, ↓reduceIte, Dv C, hm, h0, Int.le_refl]
  refine Ac (by decide) a.length (by omega) (I := fun k F h => A1.tmp F 0 = lW a ∧ A1.tmp F 12 = lW a ∧ A1.tmp F 3 = .sl 0 0 0 a.length ∧ h = [some ⟨Cm, 1, 0, false, (CH a.length k (fun i => K0 a (a.getD i 0#64)) 0#64).map eW⟩]) ?_ ?_ 0 _ _ (by omega) ?_ ?_ ?_
  ·rintro k F h hk h1 h2 ⟨h3, h4, h5, rfl⟩
   have hu := A3p (n := a.length) (k := k) (f := fun i => K0 a (a.getD i 0#64)) (z := 0#64)
   simp only [Qi, go_sem, ↓reduceIte, h1, h2, h3, h4, h5, hk, G7 hk, QL C a hm, JO hk, hu]
  ·rintro F h ⟨h3, h4, h5, rfl⟩
   simp only [Qi, go_sem, ↓reduceIte, h5, Hm, GL, hm]
  all_goals simp only [go_sem, ↓reduceIte]
  all_goals first | rfl | rw [ER]
theorem Qg (a : Rows) (s : BitVec 64) {i : Nat} (hi : i < a.length) : VP V Xv [.ag [lW a, vW s], .i .i64 i] Q ↔ Q (vW (if BR s (i : Int) then a.getD i 0#64 &&& s else 0#64)) := by
 refine Aa ?_
 rw [A9 C.c_z99.1 C.c_z99.2]
 cases hh : BR s (i : Int) <;> simp only [A4p, A0m, go_sem, ↓reduceIte, AJ C, hh, G7 hi, Bool.false_eq_true]
theorem ZX (a : Rows) (s : BitVec 64) : VP V A2v [lW a, vW s] Q ↔ Q (lW (VY a s)) := by
 refine Aa ?_
 rw [A9 C.c_z57.1 C.c_z57.2]
 cases hm : DQ a with
 | false => simp only [A2B, Xc, go_sem, ↓reduceIte, Dv C, hm, VY, Bool.false_eq_true]
 | true =>
  have hl := M6 hm
  simp only [A2B, Xc, go_sem, ↓reduceIte, Dv C, hm, VY,
   Wq C (show a.length ≤ 1000 by omega) (gf := Xv) (a := [.ag [lW a, vW s]]) (c := []) (fun _ _ => rfl) Fz.nil (fun (i : Nat) => if BR s (i : Int) then a.getD i 0#64 &&& s else 0#64) 0 (fun i hi => (Qg C a s hi).2 rfl)]
theorem Y8 (n : Nat) (hn : n ≤ 64) (b : Nat) {Q : VV → VH → Prop} : VP1 V A09 [.i .i64 n] b Q ↔ Q (.sl b 0 0 n) [some ⟨Cm, 1, 0, false, (List.replicate n 0#64).map eW⟩] := by
 refine MU ?_
 rw [MG C.c_z34.2]
 have h0 : n * 8 ≤ A6 := by unfold A6; omega
 have h1 : ¬ (64 : Int) < n := by omega
 have h2 : ¬ (n : Int) < 0 := by omega
 simp only [A6t, A1K, go_sem, ↓reduceIte, h0, h1, h2, Int.le_refl, Bh]
 simp
theorem W4 (a : Rows) : VP V VE [lW a] Q ↔ Q (lP (BH a)) := by
 refine Aa ?_
 rw [A9 C.c_z53.1 C.c_z53.2]
 cases hm : DQ a with
 | false => simp only [A1p, M4, go_sem, ↓reduceIte, Dv C, hm, BH, Bool.false_eq_true, Q8]
 | true =>
  have hl := M6 hm
  simp only [A1p, M4, go_sem, ↓reduceIte, Dv C, hm, Q8]
  refine Ac (by decide) a.length (by omega) (I := fun k F h => A1.tmp F 12 = lW a ∧ ∃ l, l = ((List.range k).flatMap (fun (i : Nat) => (AK (a.getD i 0#64)).map fun j => ((i : Int), j))) ∧ A1.tmp F 3 = .sl 0 l.length 0 l.length ∧ h = [some (AL A0Q 2 (l.map eP))]) ?_ ?_ 0 _ _ (by omega) ?_ ?_ ?_
  ·rintro k F h hk h1 h2 ⟨h3, l, hl', h4, rfl⟩
   simp only [M4, go_sem, ↓reduceIte, h1, h2, h3, h4, G7 hk, Dr C]
   have hll := Dw (a.getD k 0#64)
   have hpl := MH a k
   rw [← hl'] at hpl
   refine Ac (by decide) (AK (a.getD k 0#64)).length (by omega) (I := fun m F h => A1.tmp F 14 = .i .i64 k ∧ A1.tmp F 13 = .i .i64 a.length ∧ A1.tmp F 12 = lW a ∧ A1.tmp F 20 = lI (AK (a.getD k 0#64)) ∧ A1.tmp F 4 = .i .i64 k ∧ ∃ l', l' = l ++ ((AK (a.getD k 0#64)).take m).map (fun j => ((k : Int), j)) ∧ A1.tmp F 3 = .sl 0 l'.length 0 l'.length ∧ h = [some (AL A0Q 2 (l'.map eP))]) ?_ ?_ 0 _ _ (by omega) ?_ ?_ ?_
   ·rintro m G h hm' j1 j2 ⟨j4, j5, j6, j7, j8, l', hl2, j9, rfl⟩
    have hb : (l'.length + 1) * 16 ≤ A6 := by
     have : l'.length ≤ 10000 := by
      rw [hl2, List.length_append, List.length_map, List.length_take]; omega
     unfold A6; omega
    simp only [M4, go_sem, ↓reduceIte, j1, j2, j4, j5, j6, j7, j8, j9, List.getElem?_eq_getElem hm', hb]
    refine ⟨_, ?_, by rw [List.length_append]; rfl, rfl⟩
    rw [hl2, List.take_succ_eq_append_getElem hm', List.map_append, List.append_assoc]; rfl
   ·rintro G h ⟨j4, j5, j6, j7, j8, l', hl2, j9, rfl⟩
    simp only [M4, go_sem, ↓reduceIte, j4, j5, j6, j9]
    refine ⟨_, ?_, rfl, rfl⟩
    rw [hl2, List.take_length, hl', List.flatMap_append]; simp
   all_goals simp only [go_sem, ↓reduceIte, h1, h2, h3, h4]
   all_goals first | rfl | exact ⟨l, by simp, rfl, rfl⟩
  ·rintro F h ⟨h3, l, hl', h4, rfl⟩
   simp only [M4, go_sem, ↓reduceIte, h4, BH, hm, ← hl']
  all_goals simp only [go_sem, ↓reduceIte]
  all_goals first | rfl | exact ⟨[], rfl, rfl, rfl⟩
end
end Go.AM

namespace Go.AM
open Go Go.Proofs
theorem A8c {e : Option PT} (s : BitVec 64) {n : Nat} (h : n < 64) : AZ .shr e (Wd s) (.i .u64 n) = some (Wd (s >>> n)) := by
 have h0 : ¬ ((n : Int) < 0) := by omega
 simp only [Wd, AZ, Gc, if_neg h0, IntKind.bits, Option.some.injEq, AV.i.injEq, true_and, Int.toNat_natCast]
 rw [Nat.min_eq_left (by omega), BitVec.toNat_ushiftRight, Nat.shiftRight_eq_div_pow]
 rw [show ((2 : Int) ^ n) = ((2 ^ n : Nat) : Int) by simp, Int.fdiv_eq_ediv_of_nonneg _ (Int.natCast_nonneg _)]
 rfl
theorem A7Y {e : Option PT} (s : BitVec 64) : AZ .rem e (Wd s) (.i .u64 2) = some (Wd (if s.getLsbD 0 then 1#64 else 0#64)) := by
 rw [Wd, A6T (by decide)]
 simp only [Option.some.injEq, Wd, AV.i.injEq, true_and]
 have h0 : s.getLsbD 0 = decide (s.toNat % 2 = 1) := by
  show s.toNat.testBit 0 = _
  simp [Nat.testBit_zero]
 rw [h0]
 have : (s.toNat : Int).tmod 2 = ((s.toNat % 2 : Nat) : Int) := by
  rw [Int.tmod_eq_emod_of_nonneg (Int.natCast_nonneg _)]
  rfl
 rw [this]
 by_cases h : s.toNat % 2 = 1
 ·simp [h]
 ·have : s.toNat % 2 = 0 := by omega
  simp [this]
theorem A87 {e : Option PT} (s : BitVec 64) {n : Nat} (h : n < 64) : B4 .shr e (vW s) (.i .u64 n) = some (vW (s >>> n)) := by
 show (AZ .shr e (Wd s) (.i .u64 n)).bind G2 = _
 rw [A8c s h]; rfl
theorem A8Y {e : Option PT} (s : BitVec 64) : B4 .rem e (vW s) (.i .u64 2) = some (vW (if s.getLsbD 0 then 1#64 else 0#64)) := by
 show (AZ .rem e (Wd s) (.i .u64 2)).bind G2 = _
 rw [A7Y s]; rfl
section
variable {V : Al} (C : AB V) {Q : VV → Prop}
include C
theorem Pa (s : BitVec 64) (i : Int) : VP V A26 [vW s, .i .i64 i] Q ↔ Q (.b (BR s i)) := by
 refine Aa ?_
 rw [A9 C.c_z65.1 C.c_z65.2]
 by_cases h0 : i < 0
 ·have : BR s i = false := by unfold BR; simp; omega
  simp only [WY, Rk, go_sem, ↓reduceIte, h0, this]
 ·by_cases h1 : 63 < i
  ·have : BR s i = false := by
    unfold BR
    rw [BitVec.getLsbD_of_ge _ _ (by omega)]
    simp
   simp only [WY, Rk, go_sem, ↓reduceIte, h0, h1, this]
  ·obtain ⟨n, rfl⟩ := Int.eq_ofNat_of_zero_le (by omega : 0 ≤ i)
   have hw : IntKind.u64.wrap (n : Int) = n := by rw [Hh]; omega
   have hs : ∀ e, B4 .shr e (vW s) (.i .u64 (n : Int)) = some (vW (s >>> n)) := fun e => A87 s (by omega)
   simp only [WY, Rk, go_sem, ↓reduceIte, h0, h1, hw, hs, A8Y]
   rw [B0, BitVec.getLsbD_ushiftRight, Nat.add_zero]
   cases s.getLsbD n <;> rfl
theorem QV (s t : BitVec 64) : VP V A9e [vW s, vW t] Q ↔ Q (.b (decide (s ||| t = t))) := by
 refine Aa ?_
 rw [A9 C.c_z8.1 C.c_z8.2]
 simp only [Abq, A7W, go_sem, ↓reduceIte]
theorem U9 (n : Nat) (hn : n < 64) : VP V A0z [.i .i64 n] Q ↔ Q (vW (1#64 <<< n)) := by
 refine Aa ?_
 rw [A9 C.c_z92.1 C.c_z92.2]
 simp only [A5a, Qm, go_sem, ↓reduceIte]
 refine Ak (by decide) n (by omega) (I := fun k F h => h = [] ∧ A1.tmp F 0 = .i .i64 n ∧ A1.tmp F 3 = vW (1#64 <<< k)) ?_ ?_ ?_ 0 _ _ (Nat.zero_le _) ?_ ?_
 ·rintro k F h hk h1 ⟨rfl, h2, h3⟩
  simp only [Qm, go_sem, ↓reduceIte, h1, h2, h3]
 ·rintro k F h hk h1 ⟨rfl, h2, h3⟩
  simp only [Qm, go_sem, ↓reduceIte, h1, h2, h3]
  congr 1
  apply BitVec.eq_of_toNat_eq
  rw [BitVec.toNat_add, BitVec.toNat_shiftLeft, BitVec.toNat_shiftLeft]
  simp only [Nat.shiftLeft_eq]
  have : (1#64).toNat = 1 := rfl
  rw [this, Nat.pow_succ]
  omega
 ·rintro F h ⟨rfl, h2, h3⟩
  simp only [Qm, go_sem, ↓reduceIte, h3]
 all_goals simp only [go_sem, ↓reduceIte]
 all_goals rfl
theorem PE (s : BitVec 64) (i : Int) : VP V A1Z [vW s, .i .i64 i] Q ↔ Q (vW (s ||| Cy i)) := by
 refine Aa ?_
 rw [A9 C.c_z52.1 C.c_z52.2]
 by_cases h0 : i < 0
 ·have : Cy i = 0#64 := by unfold Cy; rw [if_neg (by omega)]
  simp only [Rq, PH, go_sem, ↓reduceIte, h0, this, BitVec.or_zero]
 ·by_cases h1 : 63 < i
  ·have : Cy i = 0#64 := by unfold Cy; rw [if_neg (by omega)]
   simp only [Rq, PH, go_sem, ↓reduceIte, h0, h1, this, BitVec.or_zero]
  ·obtain ⟨n, rfl⟩ := Int.eq_ofNat_of_zero_le (by omega : 0 ≤ i)
   have h1f : Cy (n : Int) = 1#64 <<< n := by unfold Cy; rw [if_pos (by omega)]; rfl
   cases hb : BR s n with
   | true =>
    simp only [Rq, PH, go_sem, ↓reduceIte, h0, h1, Pa C, hb]
    congr 1
    apply C1
    intro j hj
    rw [BitVec.getLsbD_or, CW]
    by_cases e : j = n
    ·subst e; rw [B0] at hb; simp [hb]
    ·have : ¬ ((j : Int) = n) := by omega
     simp [this]
   | false =>
    simp only [Rq, PH, go_sem, ↓reduceIte, h0, h1, Pa C, hb, U9 C n (by omega)]
    congr 1
    rw [h1f]
    apply BitVec.add_eq_or_of_and_eq_zero
    rw [← h1f, Nt]
    rw [B0] at hb
    simp [hb]
theorem A3b (xs : List Int) (hl : xs.length < 9223372036854775807) : VP V A1r [lI xs] Q ↔ Q (vW (Cg xs)) := by
 refine Aa ?_
 rw [A9 C.c_z30.1 C.c_z30.2]
 simp only [A6j, PZ, go_sem, ↓reduceIte]
 refine Ak (by decide) xs.length hl (I := fun k F h => h = [] ∧ A1.tmp F 0 = lI xs ∧ A1.tmp F 3 = vW (Cg (xs.take k))) ?_ ?_ ?_ 0 _ _ (Nat.zero_le _) ?_ ?_
 ·rintro k F h hk h1 ⟨rfl, h2, h3⟩
  simp only [PZ, go_sem, ↓reduceIte, h1, h2, h3]
 ·rintro k F h hk h1 ⟨rfl, h2, h3⟩
  simp only [PZ, go_sem, ↓reduceIte, h1, h2, h3, List.getElem?_eq_getElem hk, PE C]
  rw [List.take_succ_eq_append_getElem hk]
  simp only [Cg, List.foldl_append, List.foldl_cons, List.foldl_nil]
 ·rintro F h ⟨rfl, h2, h3⟩
  rw [List.take_length] at h3
  simp only [PZ, go_sem, ↓reduceIte, h3]
 all_goals simp only [go_sem, ↓reduceIte]
 all_goals rfl
omit C in
theorem A3Q (s t : BitVec 64) : decide (s ||| t = t) = decide (s &&& ~~~t = 0#64) := by
 apply decide_eq_decide.2
 rw [AbJ]
 constructor
 ·intro h
  apply C1
  intro j hj
  cases hs : s.getLsbD j with
  | false => simp [hs]
  | true => simp [hs, h j hs]
 ·intro h j hj
  have := congrArg (fun w : BitVec 64 => w.getLsbD j) h
  have hlt : j < 64 := BitVec.lt_of_getLsbD hj
  simp [hj, hlt] at this
  exact this
end
end Go.AM

namespace Go.AM
open Go Go.Proofs
section
variable {V : Al} (C : AB V) {Q : VV → Prop}
include C
theorem R1 (xs : List Int) (hl : xs.length < 9223372036854775807) (n : Int) : VP V UT [lI xs, .i .i64 n] Q ↔ Q (.i .i64 (Ci (fun y => decide (n = y)) xs)) := by
 refine Aa ?_
 rw [A9 C.c_z32.1 C.c_z32.2]
 simp only [A5N, Ni, go_sem, ↓reduceIte]
 refine Ak (by decide) xs.length hl (I := fun k F h => h = [] ∧ A1.tmp F 0 = lI xs ∧ A1.tmp F 1 = .i .i64 n ∧ ∀ (j : Nat) (hj : j < xs.length), j < k → ¬ n = xs[j]) ?_ ?_ ?_ 0 _ _ (Nat.zero_le _) ?_ ?_
 ·rintro k F h hk h1 ⟨rfl, h2, h3, h4⟩
  simp only [Ni, go_sem, ↓reduceIte, h1, h2, h3]
  exact h4
 ·rintro k F h hk h1 ⟨rfl, h2, h3, h4⟩
  by_cases e : xs[k] = n
  ·simp only [Ni, go_sem, ↓reduceIte, h1, h2, h3, List.getElem?_eq_getElem hk, e]
   rw [D4 hk (by simp [e]) fun j hj => by simpa using h4 j _ hj]
  ·simp only [Ni, go_sem, ↓reduceIte, h1, h2, h3, List.getElem?_eq_getElem hk, e]
   intro j hj hjk
   by_cases e2 : j = k
   ·subst e2; exact fun e3 => e e3.symm
   ·exact h4 j hj (by omega)
 ·rintro F h ⟨rfl, h2, h3, h4⟩
  simp only [Ni, go_sem, ↓reduceIte]
  rw [Dp fun x hx => by obtain ⟨j, hj, e⟩ := List.mem_iff_getElem.1 hx; rw [← e]; simpa using h4 j hj hj]
 all_goals simp only [go_sem, ↓reduceIte]
 all_goals first | rfl | (intro j hj hjk; omega)
theorem Ay (t : A3) (n : Int) : VP V A28 [vT t, .i .i64 n] Q ↔ Q (.b (BY t n)) := by
 refine Aa ?_
 rw [A9 C.c_z67.1 C.c_z67.2]
 cases h0 : decide (0 ≤ n) <;> simp only [A4G, A25, go_sem, ↓reduceIte, h0, BY]
theorem R8 (n : Aw) : VP V A0T [vN n] Q ↔ Q (.b (Cu n)) := by
 refine Aa ?_
 rw [A9 C.c_z69.1 C.c_z69.2]
 cases c0 : decide (0 ≤ n.thread) <;> cases c1 : decide (n.kind = 3) <;> cases c2 : decide (n.mode = 0) <;>
  simp only [A65, A0B, go_sem, ↓reduceIte, c0, c1, c2, Cu]
theorem Ji (t : A3) (hu : K5 t) (a : Int) {b : Nat} (hb : b < t.nodes.length) : VP V A1Q [vT t, .i .i64 a, .i .i64 b] Q ↔ Q (.b (AE t a b)) := by
 refine Aa ?_
 rw [A9 C.c_z91.1 C.c_z91.2]
 simp only [A6K, Pp, go_sem, ↓reduceIte, A5 hb]
 unfold VL
 rw [A0]
 refine AQ (M := Int) (I := fun x F h => h = [] ∧ A1.tmp F 3 = .fp (eT t) 0 ∧ A1.tmp F 1 = .i .i64 a ∧ A1.tmp F 7 = .i .i64 x ∧ x < t.nodes.length ∧ Ku t a t.nodes.length x = AE t a b) (μ := fun x => (x + 1).toNat) ?_ (t.at b).up _ _ ⟨rfl, ?_, ?_, ?_, ?_, rfl⟩
 ·rintro x F h ⟨rfl, j1, j2, j3, j4, j5⟩
  have hfuel : ∀ y : Int, y < t.nodes.length → Ku t a (t.nodes.length + 1) y = Ku t a t.nodes.length y := fun y hy => RF hu a _ y hy hy
  by_cases c0 : 0 ≤ x
  ·obtain ⟨m, rfl⟩ := Int.eq_ofNat_of_zero_le c0
   have hm : m < t.nodes.length := by omega
   have hstep := hfuel (m : Int) j4
   rw [Ku, if_neg (by omega)] at hstep
   by_cases c1 : (m : Int) = a
   ·rw [if_pos c1] at hstep
    subst c1
    simp only [U6, Pp, go_sem, ↓reduceIte, j1, j2, j3, A0]
    rw [← j5, ← hstep]
   ·rw [if_neg c1, Int.toNat_natCast] at hstep
    have hup := hu m hm
    simp only [U6, Pp, go_sem, ↓reduceIte, j1, j2, j3, c1, A0, A5 hm]
    exact ⟨_, by omega, rfl, by omega, by rw [hstep, j5]⟩
  ·have hstep := hfuel x j4
   rw [Ku, if_pos (by omega)] at hstep
   simp only [U6, Pp, go_sem, ↓reduceIte, j1, j2, j3, c0]
   rw [← j5, ← hstep]
 ·simp only [go_sem, ↓reduceIte]
 ·simp only [go_sem, ↓reduceIte]
 ·simp only [go_sem, ↓reduceIte]
 ·have := hu b hb; omega
set_option maxHeartbeats 1000000 in
theorem Ny (t : A3) (hu : K5 t) (a b : Int) : VP V A0R [vT t, .i .i64 a, .i .i64 b] Q ↔ Q (.b (Bn t a b)) := by
 refine Aa ?_
 rw [A9 C.c_z70.1 C.c_z70.2]
 cases ha : BY t a with
 | false => simp only [RR, P5, go_sem, ↓reduceIte, Ay C, ha, Bn]
 | true =>
  cases hb : BY t b with
  | false => simp only [RR, P5, go_sem, ↓reduceIte, Ay C, ha, hb, Bn]
  | true =>
   obtain ⟨m, rfl, hm⟩ := Aj ha
   obtain ⟨n, rfl, hn⟩ := Aj hb
   by_cases e : (m : Int) = n
   ·simp only [RR, P5, go_sem, ↓reduceIte, Ay C, ha, hb, Bn, e]
   ·cases c0 : decide (0 ≤ (t.at m).thread) <;> cases c1 : decide ((t.at m).thread = (t.at n).thread) <;> cases c2 : AE t (m : Int) n <;>
     simp only [RR, P5, go_sem, ↓reduceIte, Ay C, ha, hb, Bn, e, A5 hm, A5 hn, c0, c1, c2, Ji C t hu _ hn, Ji C t hu _ hm]
end
end Go.AM

namespace Go.AM
open Go Go.Proofs
theorem G4 {k : Nat} (h0 : 0 < k) (h : k < 9223372036854775807) : IntKind.i64.wrap ((k : Int) - 1) = ((k - 1 : Nat) : Int) := by rw [AS (by omega) (by omega)]; omega
section
variable {V : Al} (C : AB V) {Q : VV → Prop}
include C
theorem Av (xs : List Int) (hl : xs.length < 9223372036854775807) (n : Int) : VP V UT [lI xs, .i .i64 n] Q ↔ Q (.i .i64 (Eh xs n)) := R1 C xs hl n
theorem QP (t : A3) (ht : t.nodes.length ≤ 1000) : VP V A2e [vT t] Q ↔ Q (vW (GY t)) := by
 refine Aa ?_
 rw [A9 C.c_z68.1 C.c_z68.2]
 simp only [A6v, N0, go_sem, ↓reduceIte]
 refine Ak (by decide) t.nodes.length (by omega) (I := fun k F h => h = [] ∧ A1.tmp F 1 = .fp (eT t) 0 ∧ A1.tmp F 3 = vW (BA fun i => decide (i < k) && decide ((t.at i).up < 0))) ?_ ?_ ?_ 0 _ _ (Nat.zero_le _) ?_ ?_
 ·rintro k F h hk p1 ⟨rfl, p2, p3⟩
  simp only [N0, go_sem, ↓reduceIte, p1, p2, p3]
 ·rintro k F h hk p1 ⟨rfl, p2, p3⟩
  by_cases e : (t.at k).up < 0
  ·simp only [N0, go_sem, ↓reduceIte, p1, p2, p3, A5 hk, e, PE C]
   by_cases h64 : k < 64
   ·rw [PR _ _ h64]
    congr 1
    apply BP
    intro j hj
    by_cases e2 : j = k
    ·subst e2; simp [e]
    ·have : (j < k + 1) ↔ (j < k) := by omega
     simp [this, e2]
   ·have : Cy (k : Int) = 0#64 := by unfold Cy; rw [if_neg (by omega)]
    rw [this, BitVec.or_zero]
    congr 1
    apply BP
    intro j hj
    have : (j < k + 1) ↔ (j < k) := by omega
    simp [this]
  ·simp only [N0, go_sem, ↓reduceIte, p1, p2, p3, A5 hk, e]
   congr 1
   apply BP
   intro j hj
   by_cases e2 : j = k
   ·subst e2; simp [e]
   ·have : (j < k + 1) ↔ (j < k) := by omega
    simp [this]
 ·rintro F h ⟨rfl, p2, p3⟩
  simp only [N0, go_sem, ↓reduceIte, p3, GY]
 all_goals simp only [go_sem, ↓reduceIte]
 all_goals first | rfl | (rw [← Hn]; congr 1; apply BP; intro j hj; simp)
set_option maxHeartbeats 1000000 in
theorem QW (t : A3) (ht : t.nodes.length ≤ 1000) (l : List Int) (hl : l.length ≤ 1000) : VP V A2d [vT t, lI l] Q ↔ Q (.b (BO t l)) := by
 refine Aa ?_
 rw [A9 C.c_z31.1 C.c_z31.2]
 simp only [A79, J9, go_sem, ↓reduceIte]
 refine Ak (by decide) l.length (by omega) (I := fun k F h => h = [] ∧ A1.tmp F 1 = lI l ∧ A1.tmp F 2 = .fp (eT t) 0 ∧ ∀ j, j < k → BL t l j = true) ?_ ?_ ?_ 0 _ _ (Nat.zero_le _) ?_ ?_
 ·rintro k F h hk p1 ⟨rfl, p2, p3, p4⟩
  simp only [J9, go_sem, ↓reduceIte, p1, p2, p3]
  exact p4
 ·rintro k F h hk p1 ⟨rfl, p2, p3, p4⟩
  have bad : BL t l k = false → false = BO t l := fun h => by rw [BO, AY hk h]; rfl
  have good : BL t l k = true → ∀ j, j < k + 1 → BL t l j = true := fun h j hj => by
   by_cases e : j = k
   ·rw [e]; exact h
   ·exact p4 j (by omega)
  cases c0 : BY t (l.getD k 0) with
  | false =>
   simp only [J9, go_sem, ↓reduceIte, p1, p2, p3, Au hk, Ay C, c0]
   exact bad (by rw [BL, c0]; rfl)
  | true =>
   obtain ⟨n, hn, hn'⟩ := Aj c0
   have hup : BL t l k = (Cs l k && (decide ((t.at n).up < 0) || Bd l (t.at n).up)) := by
    unfold BL
    rw [c0, hn, Int.toNat_natCast, Bool.true_and]
   rw [hn] at c0
   by_cases z : k = 0
   ·subst z
    have hr : Cs l 0 = true := by simp [Cs]
    rw [hr, Bool.true_and] at hup
    have z0 : ¬ (0 : Int) < ((0 : Nat) : Int) := by omega
    by_cases u0 : 0 ≤ (t.at n).up
    ·have u1 : ¬ (t.at n).up < 0 := by omega
     rw [decide_eq_false u1, Bool.false_or] at hup
     cases u2 : Bd l (t.at n).up <;> rw [u2] at hup <;>
      simp only [J9, go_sem, ↓reduceIte, p1, p2, p3, Au hk, Ay C, c0, z0, hn, A5 hn', u0, Av C l (by omega), CK, u2]
     ·exact bad hup
     ·exact good hup
    ·have u1 : (t.at n).up < 0 := by omega
     rw [decide_eq_true u1, Bool.true_or] at hup
     simp only [J9, go_sem, ↓reduceIte, p1, p2, p3, Au hk, Ay C, c0, z0, hn, A5 hn', u0]
     exact good hup
   ·have z0 : (0 : Int) < (k : Int) := by omega
    have zw := G4 (show 0 < k by omega) (by omega)
    have hk1 : k - 1 < l.length := by omega
    have hr : Cs l k = !decide ((n : Int) ≤ l.getD (k - 1) 0) := by
     unfold Cs
     rw [decide_eq_false z, Bool.false_or, hn]
     by_cases c : (n : Int) ≤ l.getD (k - 1) 0
     ·rw [decide_eq_true c, decide_eq_false (by omega)]; rfl
     ·rw [decide_eq_false c, decide_eq_true (by omega)]; rfl
    cases c1 : decide ((n : Int) ≤ l.getD (k - 1) 0) with
    | true =>
     rw [c1] at hr
     rw [hr] at hup
     simp only [J9, go_sem, ↓reduceIte, p1, p2, p3, Au hk, Ay C, c0, z0, zw, Au hk1, hn, c1]
     exact bad hup
    | false =>
     rw [c1] at hr
     rw [hr] at hup
     simp only [Bool.not_false, Bool.true_and] at hup
     by_cases u0 : 0 ≤ (t.at n).up
     ·have u1 : ¬ (t.at n).up < 0 := by omega
      rw [decide_eq_false u1, Bool.false_or] at hup
      cases u2 : Bd l (t.at n).up <;> rw [u2] at hup <;>
       simp only [J9, go_sem, ↓reduceIte, p1, p2, p3, Au hk, Ay C, c0, z0, zw, Au hk1, hn, c1, A5 hn', u0, Av C l (by omega), CK, u2]
      ·exact bad hup
      ·exact good hup
     ·have u1 : (t.at n).up < 0 := by omega
      rw [decide_eq_true u1, Bool.true_or] at hup
      simp only [J9, go_sem, ↓reduceIte, p1, p2, p3, Au hk, Ay C, c0, z0, zw, Au hk1, hn, c1, A5 hn', u0]
      exact good hup
 ·rintro F h ⟨rfl, p2, p3, p4⟩
  simp only [J9, go_sem, ↓reduceIte, p2, p3, QP C t ht, A3b C l (by omega), QV C]
  rw [BO, AR p4]; rfl
 all_goals simp only [go_sem, ↓reduceIte]
 all_goals first | rfl | (intro j hj; omega)
set_option maxHeartbeats 4000000 in
theorem QK (t : A3) (hu : K5 t) (l has : List Int) (hl : l.length ≤ 1000) (hh : has.length ≤ 1000) (hv : ∀ n ∈ has, BY t n = true) (loc : Int) : VP V A1W [vT t, lI l, lI has, .i .i64 loc] Q ↔ Q (.b (Cc t l has loc)) := by
  refine Aa ?_
  rw [A9 C.c_z33.1 C.c_z33.2]
  by_cases z : l.length = 0
  · have z' : (l.length : Int) = 0 := by omega
    simp only [A0A, Ee, go_sem, ↓reduceIte, z']
    simp [Cc, z]
  have z' : ¬ (l.length : Int) = 0 := by omega
  simp only [A0A, Ee, go_sem, ↓reduceIte, z']
  refine Ak (by decide) l.length (by omega) (I := fun k F h => h = [] ∧ A1.tmp F 1 = lI l ∧ A1.tmp F 2 = lI has ∧ A1.tmp F 3 = .i .i64 loc ∧ A1.tmp F 4 = .fp (eT t) 0 ∧ ∀ j, j < k → Bl t l has loc j = true) ?_ ?_ ?_ 0 _ _ (Nat.zero_le _) ?_ ?_
  · rintro k F h hk p1 ⟨rfl, p2, p3, p4, p5, p6⟩
    simp only [Ee, go_sem, ↓reduceIte, p1, p2, p3, p4, p5]
    exact p6
  · rintro k F h hk p1 ⟨rfl, p2, p3, p4, p5, p6⟩
    have bad : Bl t l has loc k = false → false = Cc t l has loc := fun h => by rw [Cc, AY hk h]; simp
    have good : Bl t l has loc k = true → ∀ j, j < k + 1 → Bl t l has loc j = true := fun h j hj => by
      by_cases e : j = k
      · rw [e]; exact h
      · exact p6 j (by omega)
    cases c0 : Bd has (l.getD k 0) with
    | false =>
      simp only [Ee, go_sem, ↓reduceIte, p1, p2, p3, p4, p5, Au hk, Av C has (by omega), CK, c0]
      exact bad (by rw [Bl, c0]; rfl)
    | true =>
      obtain ⟨n, hn, hn'⟩ := Aj (hv _ (A7.1 c0))
      have hcls : Bl t l has loc k = (Cs l k && (decide ((t.at n).kind = 3) && decide ((t.at n).loc = loc)) && decide (0 ≤ (t.at n).thread) && (List.range k).all fun j => AG t (l.getD k 0) (l.getD j 0)) := by
        unfold Bl Hx
        rw [c0, hn, Int.toNat_natCast, Bool.true_and]
      have hris : Cs l k = (decide (k = 0) || decide (l.getD (k - 1) 0 < (n : Int))) := by rw [Cs, hn]
      rw [hn] at c0
      have tail : ∀ (hr : Cs l k = true) (hx1 : decide ((t.at n).kind = 3) = true) (hx2 : decide ((t.at n).loc = loc) = true) (hx3 : decide ((t.at n).thread < 0) = false) (G : A1) (Q' : Ex → A1 → VH → Prop)
          (g1 : A1.tmp G 1 = lI l) (g2 : A1.tmp G 2 = lI has) (g3 : A1.tmp G 3 = .i .i64 loc) (g4 : A1.tmp G 4 = .fp (eT t) 0) (g9 : A1.tmp G 9 = .i .i64 k) (g10 : A1.tmp G 10 = .p 0 0 0 0) (g11 : A1.tmp G 11 = .i .i64 0)
          (q1 : ∀ G' h', A1.tmp G' 1 = lI l → A1.tmp G' 2 = lI has → A1.tmp G' 3 = .i .i64 loc → A1.tmp G' 4 = .fp (eT t) 0 → A1.tmp G' 9 = .i .i64 k → Bl t l has loc k = true → Q' .norm G' h') (q2 : ∀ G' h', A1.tmp G' 8 = .b false → Bl t l has loc k = false → Q' .ret G' h'),
          VL V Ee 2 A71 G [some ⟨Cb, 0, 0, false, [eN (t.at n)]⟩] Q' := by
        intro hr hx1 hx2 hx3 G Q' g1 g2 g3 g4 g9 g10 g11 q1 q2
        have hx3' : decide (0 ≤ (t.at n).thread) = true := by simp at hx3 ⊢; omega
        rw [hr, hx1, hx2, hx3'] at hcls
        simp only [Bool.and_self, Bool.true_and] at hcls
        refine Ak (by decide) k (by omega) (I := fun j F h => h = [some ⟨Cb, 0, 0, false, [eN (t.at n)]⟩] ∧ A1.tmp F 1 = lI l ∧ A1.tmp F 2 = lI has ∧ A1.tmp F 3 = .i .i64 loc ∧ A1.tmp F 4 = .fp (eT t) 0 ∧ A1.tmp F 9 = .i .i64 k ∧ A1.tmp F 10 = .p 0 0 0 0 ∧ ∀ i, i < j → AG t (l.getD k 0) (l.getD i 0) = true) ?_ ?_ ?_ 0 _ _ (Nat.zero_le _) g11 ⟨rfl, g1, g2, g3, g4, g9, g10, fun i hi => by omega⟩
        · rintro j F h hj r1 ⟨rfl, r2, r3, r4, r5, r6, r7, r8⟩
          simp only [Ee, go_sem, ↓reduceIte, r1, r2, r3, r4, r5, r6, r7]
          exact r8
        · rintro j F h hj r1 ⟨rfl, r2, r3, r4, r5, r6, r7, r8⟩
          have hjl : j < l.length := by omega
          have c1 : Bd has (l.getD j 0) = true := by
            have := p6 j hj
            unfold Bl at this
            simp only [Bool.and_eq_true] at this
            exact this.1.1.1.1
          obtain ⟨n2, hn2, hn2'⟩ := Aj (hv _ (A7.1 c1))
          have hsc : AG t (l.getD k 0) (l.getD j 0) = (Cu (t.at n) && Cu (t.at n2) && decide ((t.at n).val = (t.at n2).val) && Bn t n n2) := by
            unfold AG; rw [hn, hn2, Int.toNat_natCast, Int.toNat_natCast]
          have bad2 : AG t (l.getD k 0) (l.getD j 0) = false → Bl t l has loc k = false := fun h => by rw [hcls]; exact AY hj h
          have good2 : AG t (l.getD k 0) (l.getD j 0) = true → ∀ i, i < j + 1 → AG t (l.getD k 0) (l.getD i 0) = true := fun h i hi => by
            by_cases e : i = j
            · rw [e]; exact h
            · exact r8 i (by omega)
          cases y1 : Cu (t.at n) <;> cases y2 : Cu (t.at n2) <;> cases y3 : decide ((t.at n).val = (t.at n2).val) <;> cases y4 : Bn t n n2 <;> rw [y1, y2, y3, y4] at hsc <;>
            simp only [Ee, go_sem, ↓reduceIte, r1, r2, r3, r4, r5, r6, r7, Au hk, Au hjl, hn, hn2, A5 hn2', R8 C, Ny C t hu, y1, y2, y3, y4]
          all_goals first
            | exact q2 _ _ (by simp only [go_sem, ↓reduceIte]) (bad2 hsc)
            | (have := good2 hsc; rw [hn] at this; exact this)
        · rintro F h ⟨rfl, r2, r3, r4, r5, r6, r7, r8⟩
          exact q1 _ _ r2 r3 r4 r5 r6 (by rw [hcls]; exact AR r8)
      have zb : (k = 0 ∧ decide ((0 : Int) < (k : Int)) = false) ∨ (0 < k ∧ decide ((0 : Int) < (k : Int)) = true) := by
        rcases Nat.eq_zero_or_pos k with h | h
        · exact .inl ⟨h, by simp [h]⟩
        · exact .inr ⟨h, by simp; omega⟩
      have hk1 : k - 1 < l.length := by omega
      rcases zb with ⟨zk, z0⟩ | ⟨zk, z0⟩
      · have hr : Cs l k = true := by rw [hris, zk]; rfl
        simp only [Ee, go_sem, ↓reduceIte, p1, p2, p3, p4, p5, Au hk, Av C has (by omega), CK, hn, c0, z0, A5 hn']
        repeat' first
          | (refine Bf (fun hx => ?_) (fun hx => ?_) <;> simp only [Ee, go_sem, ↓reduceIte, p1, p2, p3, p4, p5, hx])
          | (refine AW (fun hx => ?_) (fun hx => ?_) <;> simp only [Ee, go_sem, ↓reduceIte, p1, p2, p3, p4, p5, hx])
        all_goals first
          | exact bad (by rw [hcls]; simp_all)
          | (refine tail hr (by simp_all) (by simp_all) (by assumption) _ _ ?_ ?_ ?_ ?_ ?_ ?_ ?_ ?_ ?_
             all_goals try simp only [go_sem, ↓reduceIte, p1, p2, p3, p4, p5]
             · intro G' e1 e2 e3 e4 e5 e6
               simp only [e1, e2, e3, e4, e5, go_sem]
               exact good e6
             · intro G' h' e1 e2
               simp only [e1, go_sem, bad e2])
      · have zw := G4 zk (by omega)
        simp only [Ee, go_sem, ↓reduceIte, p1, p2, p3, p4, p5, Au hk, Au hk1, Av C has (by omega), CK, hn, c0, z0, zw, A5 hn']
        repeat' first
          | (refine Bf (fun hx => ?_) (fun hx => ?_) <;> simp only [Ee, go_sem, ↓reduceIte, p1, p2, p3, p4, p5, Au hk, hn, hx, A5 hn'])
          | (refine AW (fun hx => ?_) (fun hx => ?_) <;> simp only [Ee, go_sem, ↓reduceIte, p1, p2, p3, p4, p5, Au hk, hn, hx, A5 hn'])
        all_goals first
          | exact bad (by rw [hcls, hris]; simp_all; try omega)
          | (refine tail (by rw [hris]; simp_all) (by simp_all) (by simp_all) (by assumption) _ _ ?_ ?_ ?_ ?_ ?_ ?_ ?_ ?_ ?_
             all_goals try simp only [go_sem, ↓reduceIte, p1, p2, p3, p4, p5]
             · intro G' e1 e2 e3 e4 e5 e6
               simp only [e1, e2, e3, e4, e5, go_sem]
               exact good e6
             · intro G' h' e1 e2
               simp only [e1, go_sem, bad e2])
  · rintro F h ⟨rfl, p2, p3, p4, p5, p6⟩
    simp only [Ee, go_sem, ↓reduceIte]
    rw [Cc, AR p6]; simp [z]
  all_goals simp only [go_sem, ↓reduceIte]
  all_goals first | rfl | (intro j hj; omega)
end
end Go.AM

namespace Go.AM
open Go Go.Proofs
abbrev eLk (t : A3) (a : Int) : List VV := [.i .i64 t.vals, lS t.locs, .ls (t.regs.map J2), .ls (t.nodes.map eN), .i .i64 a]
abbrev LK (t : A3) (a : Int) : Option VO := some ⟨T6, 0, 0, false, [eLk t a]⟩
@[go_sem] theorem Akg {α : Type} (r s : List α) : (r ++ s)[r.length]? = s[0]? := by
 rw [List.getElem?_append_right (Nat.le_refl _), Nat.sub_self]
@[go_sem] theorem Ahb {α : Type} (r s : List α) (k : Nat) : (r ++ s)[r.length + k]? = s[k]? := by
 rw [List.getElem?_append_right (Nat.le_add_right _ _), Nat.add_sub_cancel_left]
@[go_sem] theorem Aku {α : Type} (r s : List α) (x : α) : (r ++ s).set r.length x = r ++ s.set 0 x := by
 rw [List.set_append_right _ _ (Nat.le_refl _), Nat.sub_self]
@[go_sem] theorem AkU {α : Type} (r s : List α) (k : Nat) (x : α) : (r ++ s).set (r.length + k) x = r ++ s.set k x := by
 rw [List.set_append_right _ _ (Nat.le_add_right _ _), Nat.add_sub_cancel_left]
@[go_sem] theorem Acd {α : Type} (r s : List α) : (r ++ s).take r.length = r := by simp
@[go_sem] theorem AcM {α : Type} (r s : List α) (k : Nat) : (r ++ s).take (r.length + k) = r ++ s.take k := by rw [List.take_append, List.take_of_length_le (Nat.le_add_right _ _), Nat.add_sub_cancel_left]
@[go_sem] theorem AfF (L : Nat) (r s s' : VH) : Ln L (r ++ s) (r ++ s') = Ln L s s' := by
 induction r with
 | nil => rfl
 | cons x r ih => simp only [List.cons_append, Xd, ih, true_or, true_and]
@[go_sem] theorem AeJ (L : Nat) (r s' : VH) : Ln L r (r ++ s') = True := Vm L r s'
@[go_sem] theorem dz0 : decide ((0 : Int) < ((0 : Nat) : Int)) = false := rfl
@[go_sem] theorem AkX (n : Nat) : decide (0 < n + 1) = true := by simp
@[go_sem] theorem AkL (n : Nat) : decide (n < n + 1) = true := by simp
@[go_sem] theorem AkO (n : Nat) : decide (n < n + 1 + 1) = true := by simp; omega
@[go_sem] theorem AkQ (n : Nat) : decide (n < n + 1 + 1 + 1) = true := by simp; omega
@[go_sem] theorem AkC (n : Nat) : decide (n < n + 1 + 1 + 1 + 1) = true := by simp; omega
@[go_sem] theorem AhT (n : Nat) : decide (1 < n + 1 + 1) = true := by rw [decide_eq_true_iff]; omega
@[go_sem] theorem Ai4 (n : Nat) : decide (1 < n + 1 + 1 + 1) = true := by rw [decide_eq_true_iff]; omega
@[go_sem] theorem Ahf (n : Nat) : decide (1 < n + 1 + 1 + 1 + 1) = true := by rw [decide_eq_true_iff]; omega
@[go_sem] theorem Aim (n : Nat) : decide (1 < n + 1 + 1 + 1 + 1 + 1) = true := by rw [decide_eq_true_iff]; omega
@[go_sem] theorem AgM (n : Nat) : decide (1 < n + 1 + 1 + 1 + 1 + 1 + 1) = true := by rw [decide_eq_true_iff]; omega
@[go_sem] theorem AgT (n : Nat) : decide (1 < n + 1 + 1 + 1 + 1 + 1 + 1 + 1) = true := by rw [decide_eq_true_iff]; omega
@[go_sem] theorem AhG (n : Nat) : decide (1 < n + 1 + 1 + 1 + 1 + 1 + 1 + 1 + 1) = true := by rw [decide_eq_true_iff]; omega
@[go_sem] theorem AgH (n : Nat) : decide (2 < n + 1 + 1 + 1) = true := by rw [decide_eq_true_iff]; omega
@[go_sem] theorem Aj0 (n : Nat) : decide (2 < n + 1 + 1 + 1 + 1) = true := by rw [decide_eq_true_iff]; omega
@[go_sem] theorem Ai5 (n : Nat) : decide (2 < n + 1 + 1 + 1 + 1 + 1) = true := by rw [decide_eq_true_iff]; omega
@[go_sem] theorem Aj9 (n : Nat) : decide (2 < n + 1 + 1 + 1 + 1 + 1 + 1) = true := by rw [decide_eq_true_iff]; omega
@[go_sem] theorem AgS (n : Nat) : decide (2 < n + 1 + 1 + 1 + 1 + 1 + 1 + 1) = true := by rw [decide_eq_true_iff]; omega
@[go_sem] theorem Ahe (n : Nat) : decide (2 < n + 1 + 1 + 1 + 1 + 1 + 1 + 1 + 1) = true := by rw [decide_eq_true_iff]; omega
@[go_sem] theorem Air (n : Nat) : decide (3 < n + 1 + 1 + 1 + 1) = true := by rw [decide_eq_true_iff]; omega
@[go_sem] theorem Aid (n : Nat) : decide (3 < n + 1 + 1 + 1 + 1 + 1) = true := by rw [decide_eq_true_iff]; omega
@[go_sem] theorem Ahq (n : Nat) : decide (3 < n + 1 + 1 + 1 + 1 + 1 + 1) = true := by rw [decide_eq_true_iff]; omega
@[go_sem] theorem AhP (n : Nat) : decide (3 < n + 1 + 1 + 1 + 1 + 1 + 1 + 1) = true := by rw [decide_eq_true_iff]; omega
@[go_sem] theorem AhA (n : Nat) : decide (3 < n + 1 + 1 + 1 + 1 + 1 + 1 + 1 + 1) = true := by rw [decide_eq_true_iff]; omega
@[go_sem] theorem AiU (n : Nat) : decide (4 < n + 1 + 1 + 1 + 1 + 1) = true := by rw [decide_eq_true_iff]; omega
@[go_sem] theorem AhX (n : Nat) : decide (4 < n + 1 + 1 + 1 + 1 + 1 + 1) = true := by rw [decide_eq_true_iff]; omega
@[go_sem] theorem Ai3 (n : Nat) : decide (4 < n + 1 + 1 + 1 + 1 + 1 + 1 + 1) = true := by rw [decide_eq_true_iff]; omega
@[go_sem] theorem Ahm (n : Nat) : decide (4 < n + 1 + 1 + 1 + 1 + 1 + 1 + 1 + 1) = true := by rw [decide_eq_true_iff]; omega
@[go_sem] theorem Aje (n : Nat) : decide (5 < n + 1 + 1 + 1 + 1 + 1 + 1) = true := by rw [decide_eq_true_iff]; omega
@[go_sem] theorem Ahy (n : Nat) : decide (5 < n + 1 + 1 + 1 + 1 + 1 + 1 + 1) = true := by rw [decide_eq_true_iff]; omega
@[go_sem] theorem AiB (n : Nat) : decide (5 < n + 1 + 1 + 1 + 1 + 1 + 1 + 1 + 1) = true := by rw [decide_eq_true_iff]; omega
@[go_sem] theorem AhZ (n : Nat) : decide (6 < n + 1 + 1 + 1 + 1 + 1 + 1 + 1) = true := by rw [decide_eq_true_iff]; omega
@[go_sem] theorem AiC (n : Nat) : decide (6 < n + 1 + 1 + 1 + 1 + 1 + 1 + 1 + 1) = true := by rw [decide_eq_true_iff]; omega
attribute [go_sem] Option.isSome_some List.cons_append List.append_assoc List.nil_append
theorem Jz {xs : List (List ByteArray)} {k : Nat} (h : k < xs.length) : xs[k]? = some (xs.getD k []) := by
 rw [List.getD_eq_getElem?_getD, List.getElem?_eq_getElem h]; rfl
theorem ND {xs : List ByteArray} {k : Nat} (h : k < xs.length) : xs[k]? = some xs[k] := List.getElem?_eq_getElem h
section
variable {V : Al} (C : AB V) {Q : VV → Prop}
include C
theorem MW (l : List ByteArray) (hl : l.length ≤ 1000) (hn : l.Nodup) : VP V A0S [lS l] Q ↔ Q (.b false) := by
 refine Aa ?_
 rw [A9 C.c_z79.1 C.c_z79.2]
 simp only [A7a, S4, go_sem, ↓reduceIte]
 refine Ac (by decide) l.length (by omega) (I := fun k F h => h = [] ∧ A1.tmp F 5 = lS l ∧ A1.tmp F 0 = lS l) ?_ ?_ 0 _ _ (Nat.zero_le _) ?_ ?_ ?_
 ·rintro k F h hk h1 h2 ⟨rfl, h3, h4⟩
  have hx : ((l.take k).any fun y => decide (l[k] = y)) = false := by
   rw [List.any_eq_false]
   intro y hy e
   have e' : l[k] = y := by simpa using e
   obtain ⟨j, hj, ej⟩ := List.mem_iff_getElem.1 hy
   rw [List.getElem_take] at ej
   rw [List.length_take] at hj
   have := (List.getElem_inj hn).1 (ej.trans e'.symm)
   omega
  have hk' : k ≤ l.length := by omega
  simp only [S4, go_sem, ↓reduceIte, h1, h2, h3, h4, ND hk, hk', DH C (l.take k) _ (by simp; omega), hx, Int.toNat_natCast]
 ·rintro F h ⟨rfl, h3, h4⟩
  simp only [S4, go_sem, ↓reduceIte]
 all_goals simp only [go_sem, ↓reduceIte]
 all_goals rfl
theorem GR (t : A3) (a n : Int) : VP V TC [.fp (eLk t a) 0, .i .i64 n] Q ↔ Q (.b (Hv t n)) := by
 refine Aa ?_
 rw [A9 C.c_z122.1 C.c_z122.2]
 unfold Hv
 cases c0 : decide (0 ≤ n) <;> simp only [A06, SB, go_sem, ↓reduceIte, c0]
theorem K9 (t : A3) (a n : Int) : VP V Uc [.fp (eLk t a) 0, .i .i64 n] Q ↔ Q (.b (Jv t n)) := by
 refine Aa ?_
 rw [A9 C.c_z166.1 C.c_z166.2]
 unfold Jv
 cases c0 : decide (0 ≤ n) <;> simp only [Yb, SZ, go_sem, ↓reduceIte, c0]
theorem Ed (t : A3) (a u : Nat) (hu : u < t.nodes.length) : VP V Uw [.fp (eLk t a) 0, .i .i64 u] Q ↔ Q (.b (BF t a u)) := by
 refine Aa ?_
 rw [A9 C.c_z150.1 C.c_z150.2]
 unfold BF
 by_cases ha : a < t.nodes.length
 ·have ha' : (a : Int) < t.nodes.length := by omega
  cases c0 : decide ((t.at a).up = u) <;> simp only [Sj, QA, go_sem, ↓reduceIte, ha, ha', A5 ha, A5 hu, c0, Int.toNat_natCast]
 ·have ha' : ¬ (a : Int) < t.nodes.length := by omega
  simp only [Sj, QA, go_sem, ↓reduceIte, ha, ha']
theorem A02 (t : A3) (a n : Int) : VP V QD [.i .i64 n, .fp [.fp (eLk t a) 0] 0] Q ↔ Q (.b (!Hv t n)) := by
 refine Aa ?_
 rw [A9 C.c_z152.1 C.c_z152.2]
 simp only [ZF, U0, go_sem, ↓reduceIte, GR C]
/-- What the call on a node does. -/
def AaD (V : Al) (t : A3) (u e : Nat) : Prop := ∀ (a : Int) (r : VH), GF V UE [.p 0 0 0 0, .i .i64 u] (LK t a :: r) fun v h => v = .b true ∧ h = LK t e :: r
theorem UV (t : A3) (hn : t.nodes.length ≤ 64) (u e : Nat) (hu : u + 1 < t.nodes.length) (ha : D3 t u = true) (hb : AaD V t (u + 1) e) (r : VH) :
  GF V SY [.p 0 0 0 0, .i .i64 u] (LK t ((u + 1 : Nat) : Int) :: r) fun v h => v = .b true ∧ h = LK t e :: r := by
 rw [Ct C.h_z153]
 have hu0 : u < t.nodes.length := by omega
 have hq := fun (r : VH) Q => Gh (hb ((u + 1 : Nat) : Int) r) (Q := Q)
 unfold D3 at ha
 simp only [Bool.or_eq_true, Bool.and_eq_true, decide_eq_true_eq] at ha
 rcases ha with ⟨⟨⟨⟨⟨h1, h2⟩, h3⟩, h4⟩, h5⟩, h6⟩ | ⟨⟨⟨h1, h2⟩, h3⟩, h4⟩
 ·have h4' : (t.at (u + 1)).rmw = false := by simpa using h4
  have h5' : 0 ≤ (t.at (u + 1)).mode := by omega
  have h7 : ¬ (t.at (u + 1)).mode = 0 := by omega
  simp only [Pd, Kb, go_sem, ↓reduceIte, A5 hu, A5 hu0, Int.toNat_natCast, h1, h2, h3, h4', h5', h6, h7, hq, A0]
 ·have h1' : ¬ (t.at (u + 1)).kind = 4 := by omega
  cases hr : (t.at (u + 1)).rmw with
  | true =>
   rw [hr] at h4
   simp only [if_true, Bool.and_eq_true, decide_eq_true_eq] at h4
   obtain ⟨⟨⟨⟨g1, g2⟩, g3⟩, g4⟩, g5⟩ := h4
   simp only [Pd, Kb, go_sem, ↓reduceIte, A5 hu, A5 hu0, Int.toNat_natCast, h1, h1', hr, K9 C, GR C, h2, h3, g1, g2, g3, g4, g5, hq, A0, Int.reduceEq]
  | false =>
   rw [hr] at h4
   simp only [Bool.false_eq_true, if_false, Bool.or_eq_true, decide_eq_true_eq] at h4
   have g1 : 0 ≤ (t.at (u + 1)).mode := by omega
   have g2 : (t.at (u + 1)).mode ≤ 4 := by omega
   rcases h4 with (h4 | h4) | h4 <;>
   simp only [Pd, Kb, go_sem, ↓reduceIte, A5 hu, A5 hu0, Int.toNat_natCast, h1, h1', hr, K9 C, GR C, h2, h3, g1, g2, h4, hq, A0, Int.reduceEq, Int.reduceLE]
theorem Yj (t : A3) (hn : t.nodes.length ≤ 64) (u e : Nat) (hu : u < t.nodes.length) (vals : Nat) (k : Nat → Nat) (loc mode : Int) (hv : t.vals = vals) (hv0 : 0 < vals) (hv1 : vals ≤ 4) (hk0 : k 0 = u + 1) (hke : k vals = e) (hl : Jv t loc = true)
  (hs : ∀ v, v < vals → BF t (k v) u = true ∧ E7 t (k v) v loc mode = true ∧ AaD V t (k v) (k (v + 1)))
  (hm : (mode = 0 ∨ mode = 1 ∨ mode = 4) ∨ (0 ≤ mode ∧ mode ≤ 4 ∧ ∃ v, v < vals ∧ Er t (k v) = true)) (r : VH) :
  GF V SM [.p 0 0 0 0, .i .i64 u] (LK t ((u + 1 : Nat) : Int) :: r) fun v h => v = .b true ∧ h = LK t e :: r := by
 rw [Ct C.h_z154]
 have h0 := hs 0 hv0
 rw [hk0] at h0
 obtain ⟨c0, s0, _⟩ := h0
 have hu1 : u + 1 < t.nodes.length := by
  unfold BF at c0
  simp only [Bool.and_eq_true, decide_eq_true_eq] at c0
  omega
 simp only [E7, Bool.and_eq_true, decide_eq_true_eq] at s0
 obtain ⟨⟨⟨⟨g1, g2⟩, g3⟩, g4⟩, g5⟩ := s0
 simp only [Yz, GM, go_sem, ↓reduceIte, A5 hu1, Int.toNat_natCast, hv]
 refine Ac (by decide) vals (by omega) (I := fun v F h => h = LK t (k v) :: (r ++ [some ⟨Cb, 0, 0, false, [eN (t.at (u + 1))]⟩]) ∧ A1.tmp F 0 = .p 0 0 0 0 ∧ A1.tmp F 1 = .i .i64 u ∧ A1.tmp F 5 = .p (r.length + 1) 0 0 0 ∧ A1.tmp F 6 = .b ((List.range v).any fun j => Er t (k j))) ?_ ?_ 0 _ _ (Nat.zero_le _) ?_ ?_ ?_
 ·rintro v F h hv2 p1 p2 ⟨rfl, p3, p4, p5, p6⟩
  obtain ⟨c1, s1, b1⟩ := hs v hv2
  have hq := fun (r : VH) Q => Gh (b1 (k v) r) (Q := Q)
  have hkv : k v < t.nodes.length := by
   unfold BF at c1
   simp only [Bool.and_eq_true, decide_eq_true_eq] at c1
   omega
  simp only [E7, Bool.and_eq_true, decide_eq_true_eq] at s1
  obtain ⟨⟨⟨⟨q1, q2⟩, q3⟩, q4⟩, q5⟩ := s1
  have q5' : (t.at (k v)).rmw = false := by simpa using q5
  have w1 := EG (show k v < 9223372036854775807 by omega)
  have hany : ((List.range (v + 1)).any fun j => Er t (k j)) = (((List.range v).any fun j => Er t (k j)) || Er t (k v)) := by
   rw [List.range_succ, List.any_append]; simp
  rw [hany]
  clear hany
  generalize ((List.range v).any fun j => Er t (k j)) = B at *
  by_cases z1 : k v + 1 < t.nodes.length
  ·have z1' : ((k v + 1 : Nat) : Int) < (t.nodes.length : Int) := by omega
   have z2 : decide (k v + 1 < t.nodes.length) = true := by simp [z1]
   unfold Er
   rw [z2]
   cases z3 : decide ((t.at (k v + 1)).up = (k v : Int)) <;> cases B <;>
    simp only [Ti, GM, go_sem, ↓reduceIte, p1, p2, p3, p4, p5, p6, Ed C t _ u hu, c1, A5 hkv, A5 hu1, A5 z1, Int.toNat_natCast, q1, q2, q3, q4, q5', g1, g3, g4, hq, w1, z1', z3, List.length_append]
  ·have z1' : ¬ ((k v + 1 : Nat) : Int) < (t.nodes.length : Int) := by omega
   have z2 : decide (k v + 1 < t.nodes.length) = false := by simp [z1]
   unfold Er
   rw [z2]
   simp only [Ti, GM, go_sem, ↓reduceIte, p1, p2, p3, p4, p5, p6, Ed C t _ u hu, c1, A5 hkv, A5 hu1, Int.toNat_natCast, q1, q2, q3, q4, q5', g1, g3, g4, hq, w1, z1']
 ·rintro F h ⟨rfl, p3, p4, p5, p6⟩
  rw [hke]
  rcases hm with hm | ⟨hm1, hm2, v, hv2, hm3⟩
  ·rcases hm with (hm | hm | hm) <;>
   simp only [GM, go_sem, ↓reduceIte, p3, p4, p5, p6, g3, g4, hm, K9 C, hl, Int.reduceEq]
  ·have hany : ((List.range vals).any fun j => Er t (k j)) = true := UQ hv2 hm3
   rw [hany] at p6
   cases m0 : decide (mode = 0) <;> cases m1 : decide (mode = 1) <;> cases m2 : decide (mode = 4) <;>
   simp only [GM, go_sem, ↓reduceIte, p3, p4, p5, p6, g3, g4, hm1, hm2, m0, m1, m2, K9 C, hl, Int.reduceEq]
 all_goals simp only [go_sem, ↓reduceIte]
 ·rfl
 ·simp only [hk0, eN, g1, g2, g3, g4, List.range_zero, List.any_nil, go_sem]
theorem QH (t : A3) (hn : t.nodes.length ≤ 64) (h4 : t.vals ≤ 4) (hr : ∀ l ∈ t.regs, l.length ≤ 1000) : ∀ n u e, Jc t n u e → AaD V t u e := by
 intro n
 induction n with
 | zero => intro u e h; exact h.elim
 | succ n ih =>
  intro u e hb a r
  obtain ⟨⟨hu, ht0, ht1⟩, hb⟩ := hb
  rw [Ct C.h_z123]
  have w1 := EG (show u < 9223372036854775807 by omega)
  obtain ⟨th, hth⟩ := Int.eq_ofNat_of_zero_le ht0
  have ht1' : th < t.regs.length := by omega
  rcases hb with ⟨c0, e0, rfl⟩ | ⟨c0, f0, r0, a0, b0⟩ | ⟨c0, f0, r0, vals, k, loc, mode, hv, hv0, hk0, hke, hl, hs, hm⟩
  ·simp only [A0x, Bool.and_eq_true, decide_eq_true_eq] at e0
   obtain ⟨⟨g1, g2⟩, g3⟩ := e0
   rw [hth, Int.toNat_natCast] at g2
   have hall : ((t.at u).regs.any fun v => !Hv t v) = false := by
    rw [List.any_eq_false]
    intro x hx
    rw [List.all_eq_true] at g3
    simp [g3 x hx]
   have hrl : (t.regs.getD th []).length ≤ 1000 := by
    by_cases z : th < t.regs.length
    ·exact hr _ (Aq z)
    ·omega
   have hcf := fun (a : Int) Q => Ea C (t.at u).regs (by omega) (g := QD) (a := []) (c := [.fp [.fp (eLk t a) 0] 0]) Fz.nil (fun _ _ => rfl) (fun x => !Hv t x) (fun x => (A02 C t a x).2 rfl) (Q := Q)
   simp only [Pu, Km, go_sem, ↓reduceIte, w1, Ed C t _ u hu, c0, A5 hu, Int.toNat_natCast, g1, g2, hth, Jz ht1', hcf, hall]
  ·have hu1 : u + 1 < t.nodes.length := by
    unfold BF at c0
    simp only [Bool.and_eq_true, decide_eq_true_eq] at c0
    omega
   have hq := fun (r : VH) Q => Gh (UV C t hn u e hu1 a0 (ih _ _ b0) r) (Q := Q)
   have hk2 : ¬ (t.at (u + 1)).kind = 2 := by
    unfold D3 at a0
    simp only [Bool.or_eq_true, Bool.and_eq_true, decide_eq_true_eq] at a0
    rcases a0 with ⟨⟨⟨⟨⟨h1, h2⟩, h3⟩, h4⟩, h5⟩, h6⟩ | ⟨⟨⟨h1, h2⟩, h3⟩, h4⟩ <;> omega
   simp only [Pu, Km, go_sem, ↓reduceIte, w1, Ed C t _ u hu, c0, A5 hu, A5 hu1, Int.toNat_natCast, f0, r0, hk2, hq]
  ·have h0 := hs 0 hv0
   rw [hk0] at h0
   have hu1 : u + 1 < t.nodes.length := by
    unfold BF at c0
    simp only [Bool.and_eq_true, decide_eq_true_eq] at c0
    omega
   have hk2 : (t.at (u + 1)).kind = 2 := by
    have := h0.2.1
    simp only [E7, Bool.and_eq_true, decide_eq_true_eq] at this
    exact this.1.1.1.1
   have hq := fun (r : VH) Q => Gh (Yj C t hn u e hu vals k loc mode hv hv0 (by omega) hk0 hke hl (fun v hv => ⟨(hs v hv).1, (hs v hv).2.1, ih _ _ (hs v hv).2.2⟩) hm r) (Q := Q)
   simp only [Pu, Km, go_sem, ↓reduceIte, w1, Ed C t _ u hu, c0, A5 hu, A5 hu1, Int.toNat_natCast, f0, r0, hk2, hq]
theorem Wp (t : A3) (hn : t.nodes.length ≤ 64) (hl : t.locs.length ≤ t.nodes.length) (hi : ∀ i, i < t.locs.length → HK t i = true) (r : VH) :
  GF V A0f [.p 0 0 0 0] (LK t 0 :: r) fun v h => v = .b true ∧ h = LK t t.locs.length :: r := by
 rw [Ct C.h_z80]
 simp only [A4Y, Mx, go_sem, ↓reduceIte]
 unfold VL
 rw [A0]
 refine AQ (M := Nat) (I := fun k F h => k ≤ t.locs.length ∧ h = LK t (k : Int) :: r ∧ A1.tmp F 0 = .p 0 0 0 0) (μ := fun k => t.locs.length - k) ?_ 0 _ _ ⟨Nat.zero_le _, rfl, ?_⟩
 ·rintro k F h ⟨hk, rfl, p1⟩
  by_cases hkl : k < t.locs.length
  ·have hkl' : (k : Int) < t.locs.length := by omega
   have hkn : k < t.nodes.length := by omega
   have hkn' : ¬ (t.nodes.length : Int) ≤ k := by omega
   have w1 := EG (show k < 9223372036854775807 by omega)
   have := hi k hkl
   unfold HK at this
   simp only [Bool.and_eq_true, decide_eq_true_eq] at this
   obtain ⟨⟨⟨⟨⟨⟨⟨⟨g1, g2⟩, g3⟩, g4⟩, g5⟩, g6⟩, g7⟩, g8⟩, g9⟩ := this
   have g7' : (t.at k).rmw = false := by simpa using g7
   have g8' : (t.at k).fin = false := by simpa using g8
   simp only [XI, Mx, go_sem, ↓reduceIte, p1, hkl', hkn', A5 hkn, Int.toNat_natCast, g1, g2, g3, g4, g5, g6, g7', g8', g9, GR C, w1, A0]
   exact ⟨k + 1, by omega, by omega, rfl⟩
  ·have hke : k = t.locs.length := by omega
   subst hke
   simp only [XI, Mx, go_sem, ↓reduceIte, p1, A0]
 all_goals simp only [go_sem, ↓reduceIte]
theorem R7 (t : A3) (hn : t.nodes.length ≤ 64) (h4 : t.vals ≤ 4) (hr : ∀ l ∈ t.regs, l.length ≤ 1000) (hr4 : t.regs.length ≤ 4) (s : Nat → Nat) (hs0 : s 0 = t.locs.length) (hse : s t.regs.length = t.nodes.length)
  (hs : ∀ i, i < t.regs.length → Ec t (s i) i = true ∧ ∃ n, Jc t n (s i) (s (i + 1))) (r : VH) :
  GF V A15 [.p 0 0 0 0] (LK t t.locs.length :: r) fun v h => v = .b true ∧ h = LK t t.nodes.length :: r := by
 rw [Ct C.h_z81]
 simp only [A6q, Mt, go_sem, ↓reduceIte]
 refine Ac (by decide) t.regs.length (by omega) (I := fun i F h => h = LK t (s i) :: r ∧ A1.tmp F 0 = .p 0 0 0 0) ?_ ?_ 0 _ _ (Nat.zero_le _) ?_ ?_ ?_
 ·rintro i F h hi h1 h2 ⟨rfl, p1⟩
  obtain ⟨b0, nn, b1⟩ := hs i hi
  have hu : s i < t.nodes.length := by
   cases nn with
   | zero => exact b1.elim
   | succ nn => exact b1.1.1
  have hu' : ¬ (t.nodes.length : Int) ≤ s i := by omega
  have hq := fun (r : VH) Q => Gh (QH C t hn h4 hr _ _ _ b1 (s i) r) (Q := Q)
  unfold Ec at b0
  simp only [Bool.and_eq_true, decide_eq_true_eq] at b0
  obtain ⟨⟨⟨⟨⟨⟨g1, g2⟩, g3⟩, g4⟩, g5⟩, g6⟩, g7⟩ := b0
  have g7' : (t.at (s i)).rmw = false := by simpa using g7
  simp only [A6i, Mt, go_sem, ↓reduceIte, h1, h2, p1, hu', A5 hu, Int.toNat_natCast, g1, g2, g3, g4, g5, g6, g7', hq]
 ·rintro F h ⟨rfl, p1⟩
  rw [hse]
  simp only [Mt, go_sem, ↓reduceIte, p1]
 all_goals simp only [go_sem, ↓reduceIte, hs0]
 all_goals rfl
theorem Mo (t : A3) (h : A8 t) : VP V UO [vT t] Q ↔ Q (.b true) := by
 refine Aa ?_
 rw [A9 C.c_z35.1 C.c_z35.2]
 have a1 := h.v2
 have a2 := h.v4
 have a3 := h.l4
 have a4 := h.n64
 have a5 := h.r1
 have a6 := h.r4
 have b1 : ¬ t.vals < 2 := by omega
 have b2 : ¬ 4 < t.vals := by omega
 have b3 : ¬ (4 : Int) < t.locs.length := by omega
 have b4 : ¬ (64 : Int) < t.nodes.length := by omega
 have b5 : ¬ (t.regs.length : Int) < 1 := by omega
 have b6 : ¬ (4 : Int) < t.regs.length := by omega
 obtain ⟨s, s0, se, hs⟩ := h.thr
 have hrl : ∀ l ∈ t.regs, l.length ≤ 1000 := fun l hl => by have := (h.rl l hl).1; omega
 have q1 := fun (r : VH) Q => Gh (Wp C t h.n64 h.first.1 h.first.2 r) (Q := Q)
 have q2 := fun (r : VH) Q => Gh (R7 C t h.n64 h.v4 hrl h.r4 s s0 se hs r) (Q := Q)
 simp only [A4a, RL, go_sem, ↓reduceIte, b1, b2, b3, b4, b5, b6, MW C t.locs (by omega) h.ln]
 refine Ac (by decide) t.regs.length (by omega) (I := fun i F h => h = [] ∧ A1.tmp F 1 = .fp (eT t) 0 ∧ A1.tmp F 42 = .ls (t.regs.map J2)) ?_ ?_ 0 _ _ (Nat.zero_le _) ?_ ?_ ?_
 ·rintro i F hh hi h1 h2 ⟨rfl, p1, p2⟩
  have hm := h.rl _ (Aq (d := []) hi)
  have hb : ¬ (4 : Int) < (t.regs.getD i []).length := by omega
  simp only [A4w, RL, go_sem, ↓reduceIte, h1, h2, p1, p2, Jz hi, hb, MW C (t.regs.getD i []) (by omega) hm.2]
 ·rintro F hh ⟨rfl, p1, p2⟩
  simp only [RL, go_sem, ↓reduceIte, p1, q1, q2]
 all_goals simp only [go_sem, ↓reduceIte]
 all_goals rfl
end
end Go.AM

namespace Go.AM
open Go Go.Proofs
attribute [go_sem] Int.reduceLE Int.reduceLT Int.reduceEq Int.reduceToNat Int.reduceNeg Int.le_refl Int.toNat_natCast Int.cast_ofNat_Int
section
variable {V : Al} (C : AB V) {Q : VV → Prop}
include C
theorem Rg (v n : Int) (h1 : 1 ≤ n) (h2 : n ≤ 2147483648) : VP V TJ [.i .i64 v, .i .i64 n] Q ↔ Q (.i .i64 (v % n)) := by
 refine Aa ?_
 rw [A9 C.c_z136.1 C.c_z136.2]
 have c1 : ¬ n < 1 := by omega
 have c2 : ¬ 2147483648 < n := by omega
 obtain ⟨t1, t2⟩ := A9f (v := v) (show 0 < n by omega)
 by_cases c : v.tmod n < 0
 ·obtain ⟨t3, t4⟩ := t1 c
  have w : IntKind.i64.wrap (v.tmod n + n) = v % n := by rw [AS (by omega) (by omega), t3]
  simp only [TR, Pk, go_sem, ↓reduceIte, c1, c2, Gl (show n ≠ 0 by omega), c, w]
 ·have c' : ¬ v % n < 0 := by rw [← t2 c]; exact c
  simp only [TR, Pk, go_sem, ↓reduceIte, c1, c2, Gl (show n ≠ 0 by omega), t2 c, c']
theorem DN (xs : List ByteArray) (n : ByteArray) (hl : xs.length ≤ 1000) : VP V Tt [lS xs, .s n] Q ↔ Q (.i .i64 (Ci (fun y => decide (n = y)) xs)) := by
 refine Aa ?_
 rw [A9 C.c_z133.1 C.c_z133.2]
 simp only [Zr, JJ, go_sem, ↓reduceIte]
 refine Ak (by decide) xs.length (by omega) (I := fun k F h => h = [] ∧ A1.tmp F 0 = lS xs ∧ A1.tmp F 1 = .s n ∧ ∀ (j : Nat) (hj : j < xs.length), j < k → ¬ n = xs[j]) ?_ ?_ ?_ 0 _ _ (Nat.zero_le _) ?_ ?_
 ·rintro k F h hk p1 ⟨rfl, p2, p3, p4⟩
  simp only [JJ, go_sem, ↓reduceIte, p1, p2, p3]
  exact p4
 ·rintro k F h hk p1 ⟨rfl, p2, p3, p4⟩
  by_cases e : xs[k] = n
  ·simp only [JJ, go_sem, ↓reduceIte, p1, p2, p3, ND hk, e]
   rw [D4 hk (by simp [e]) fun j hj => by simpa using p4 j (by omega) hj]
  ·simp only [JJ, go_sem, ↓reduceIte, p1, p2, p3, ND hk, e]
   intro j hj hjk
   by_cases e2 : j = k
   ·subst e2; exact fun h => e h.symm
   ·exact p4 j hj (by omega)
 ·rintro F h ⟨rfl, p2, p3, p4⟩
  simp only [JJ, go_sem, ↓reduceIte]
  rw [Dp fun x hx => by obtain ⟨j, hj, e⟩ := List.mem_iff_getElem.1 hx; rw [← e]; simpa using p4 j hj hj]
 all_goals simp only [go_sem, ↓reduceIte]
 all_goals first | rfl | (intro j hj hjk; omega)
theorem CD (xs : List ByteArray) (n : ByteArray) (hl : xs.length ≤ 1000) : VP V SG [lS xs, .s n] Q ↔ Q (.b (xs.any fun y => decide (n = y))) := by
 refine Aa ?_
 rw [A9 C.c_z127.1 C.c_z127.2]
 simp only [XK, T4, go_sem, ↓reduceIte, DN C xs n hl, Ki]
theorem U1 (r : List VV) (h : GE r) : VP V Sz [.ag r] fun x => ∃ k : Int, x = .i .i64 k := by
 induction h with
 | mk op n nm kids hl hk ih =>
  rw [A9 C.c_z171.1 C.c_z171.2]
  simp only [Ym, GT, go_sem, ↓reduceIte]
  by_cases ho : op = 1 ∨ op = 2
  ·unfold VL
   rw [A0]
   refine AQ (M := Nat) (I := fun k F h => h = [] ∧ A1.tmp F 1 = .fp [.i .i64 op, .i .i64 n, .s nm, .ls kids] 0 ∧ A1.tmp F 4 = .i .i64 0 ∧ A1.tmp F 3 = .i .i64 0) (μ := fun k => k) ?_ 0 _ _ ⟨rfl, ?_, ?_, ?_⟩
   ·rintro k F h ⟨rfl, p1, p2, p3⟩
    cases c0 : decide ((0 : Int) < kids.length) <;> rcases ho with ho | ho <;>
     simp only [A2u, GT, go_sem, ↓reduceIte, p1, p2, p3, c0, ho, Int.reduceEq, A0] <;> exact ⟨_, rfl⟩
   all_goals simp only [go_sem, ↓reduceIte]
  ·have o1 : ¬ op = 1 := fun h => ho (.inl h)
   have o2 : ¬ op = 2 := fun h => ho (.inr h)
   refine Ak (by decide) kids.length (by omega) (I := fun k F h => h = [] ∧ A1.tmp F 1 = .fp [.i .i64 op, .i .i64 n, .s nm, .ls kids] 0 ∧ ∃ d : Int, A1.tmp F 3 = .i .i64 d) ?_ ?_ ?_ 0 _ _ (Nat.zero_le _) ?_ ?_
   ·rintro k F h hk' p1 ⟨rfl, p2, d, p3⟩
    cases c0 : decide ((k : Int) < kids.length)
    ·have : decide (k < kids.length) = false := by simp at c0 ⊢; omega
     simp only [GT, go_sem, ↓reduceIte, p1, p2, p3, o1, o2, c0, this]
     try exact ⟨d, rfl⟩
    ·have : decide (k < kids.length) = true := by simp at c0 ⊢; omega
     simp only [GT, go_sem, ↓reduceIte, p1, p2, p3, o1, o2, c0, this]
     try exact ⟨d, rfl⟩
   ·rintro k F h hk' p1 ⟨rfl, p2, d, p3⟩
    have hg := hk _ (List.getElem_mem hk')
    simp only [GT, go_sem, ↓reduceIte, p1, p2, p3, R5 hk', hg.len, hg.take, hg.frz]
    refine (ih _ (List.getElem_mem hk')).mono ?_
    rintro _ ⟨e, rfl⟩
    cases c0 : decide (d < e) <;>
    simp only [GT, go_sem, ↓reduceIte, p1, p2, p3, c0] <;> exact ⟨_, rfl⟩
   ·rintro F h ⟨rfl, p2, d, p3⟩
    simp only [GT, go_sem, ↓reduceIte, p3]
    try exact ⟨_, rfl⟩
   all_goals simp only [go_sem, ↓reduceIte]
   all_goals first | rfl | exact ⟨_, rfl⟩
theorem Tp (regs : List ByteArray) (vals : List Int) (hr : regs.length ≤ 1000) (hl : vals.length = regs.length) (n : Int) (h1 : 2 ≤ n) (h2 : n ≤ 2147483648) (r : List VV) (h : GE r) :
  VP V T3 [.ag r, lS regs, lI vals, .i .i64 n] fun x => ∃ (k : Int) (b : Bool), x = .tu [.i .i64 k, .b b] ∧ 0 ≤ k ∧ k < n := by
 have hin : ∀ v : Int, 0 ≤ v % n ∧ v % n < n := fun v => ⟨Int.emod_nonneg v (by omega), Int.emod_lt_of_pos v (by omega)⟩
 have q5 := fun v Q => Rg C v n (by omega) h2 (Q := Q)
 induction h with
 | mk op m nm kids hkl hk ih =>
  rw [A9 C.c_z172.1 C.c_z172.2]
  by_cases o1 : op = 1
  ·simp only [HH, CP, go_sem, ↓reduceIte, o1, A0, q5]
   exact ⟨_, _, rfl, hin m⟩
  by_cases o2 : op = 2
  ·cases c0 : regs.any fun y => decide (nm = y) with
   | false =>
    have e := Qw c0
    simp only [HH, CP, go_sem, ↓reduceIte, o2, A0, q5, Int.reduceEq, DN C regs nm hr, e, Int.reduceLT, Int.reduceNeg]
    exact ⟨_, _, rfl, by omega, by omega⟩
   | true =>
    obtain ⟨k, e, hk', _⟩ := Js c0
    have hk2 : k < vals.length := by omega
    have hk3 : ¬ (k : Int) < 0 := by omega
    simp only [HH, CP, go_sem, ↓reduceIte, o2, A0, q5, Int.reduceEq, DN C regs nm hr, e, hk3, Au hk2]
    exact ⟨_, _, rfl, hin _⟩
  by_cases o3 : op < 3
  ·simp only [HH, CP, go_sem, ↓reduceIte, o1, o2, o3, A0]
   exact ⟨_, _, rfl, by omega, by omega⟩
  by_cases o4 : 6 < op
  ·simp only [HH, CP, go_sem, ↓reduceIte, o1, o2, o3, o4, A0]
   exact ⟨_, _, rfl, by omega, by omega⟩
  by_cases o5 : (kids.length : Int) = 2
  ·obtain ⟨a, b, rfl⟩ : ∃ a b, kids = [a, b] := by
    rcases kids with _ | ⟨a, _ | ⟨b, _ | ⟨c, l⟩⟩⟩
    ·simp at o5
    ·simp at o5
    ·exact ⟨a, b, rfl⟩
    ·simp at o5; omega
   have ga := hk a (by simp)
   have gb := hk b (by simp)
   simp only [HH, CP, go_sem, ↓reduceIte, o1, o2, o3, o4, o5, A0, ga.len, ga.take, ga.frz, gb.len, gb.take, gb.frz, Int.reduceEq, Int.cast_ofNat_Int]
   refine (ih a (by simp)).mono ?_
   rintro _ ⟨ka, ba, rfl, _, _⟩
   simp only [CP, go_sem, ↓reduceIte, gb.len, gb.take, gb.frz]
   refine (ih b (by simp)).mono ?_
   rintro _ ⟨kb, bb, rfl, _, _⟩
   have hop : op = 3 ∨ op = 4 ∨ op = 5 ∨ op = 6 := by omega
   cases ba with
   | false =>
    simp only [CP, go_sem, ↓reduceIte]
    exact ⟨_, _, rfl, by omega, by omega⟩
   | true =>
    cases bb with
    | false =>
     simp only [CP, go_sem, ↓reduceIte]
     exact ⟨_, _, rfl, by omega, by omega⟩
    | true =>
     rcases hop with rfl | rfl | rfl | rfl
     ·simp only [CP, go_sem, ↓reduceIte, A0, q5, Int.reduceEq]
      exact ⟨_, _, rfl, hin _⟩
     ·simp only [CP, go_sem, ↓reduceIte, A0, q5, Int.reduceEq]
      exact ⟨_, _, rfl, hin _⟩
     ·cases c0 : decide (ka = kb) <;>
      simp only [CP, go_sem, ↓reduceIte, A0, q5, Int.reduceEq, c0] <;>
      exact ⟨_, _, rfl, by omega, by omega⟩
     ·cases c0 : decide (ka < kb) <;>
      simp only [CP, go_sem, ↓reduceIte, A0, q5, Int.reduceEq, c0] <;>
      exact ⟨_, _, rfl, by omega, by omega⟩
  ·simp only [HH, CP, go_sem, ↓reduceIte, o1, o2, o3, o4, o5, A0]
   exact ⟨_, _, rfl, by omega, by omega⟩
theorem Du (regs : List ByteArray) (vals : List Int) (hr : regs.length ≤ 1000) (hl : vals.length = regs.length) (n : Int) (h1 : 2 ≤ n) (h2 : n ≤ 4) (r : List VV) (h : GE r) :
  VP V PG [.ag r, lS regs, lI vals, .i .i64 n] fun x => ∃ (k : Int) (b : Bool), x = .tu [.i .i64 k, .b b] ∧ 0 ≤ k ∧ k < n := by
 have c1 : ¬ n < 2 := by omega
 have c2 : ¬ 4 < n := by omega
 have c3 : (regs.length : Int) = vals.length := by omega
 rw [A9 C.c_z160.1 C.c_z160.2]
 have hb : ∀ L, Cn L r = true := fun L => by cases h; rfl
 simp only [YZ, L8, go_sem, ↓reduceIte, c1, c2, c3, h.len, h.take, h.frz, h.cell]
 refine (U1 C r h).mono ?_
 rintro _ ⟨k, rfl⟩
 cases c0 : decide (6 < k) with
 | true =>
  simp only [L8, go_sem, ↓reduceIte, c0]
  exact ⟨_, _, rfl, by omega, by omega⟩
 | false =>
  simp only [L8, go_sem, ↓reduceIte, c0, h.len, h.take, h.frz]
  refine (Tp C regs vals hr hl n h1 (by omega) r h).mono ?_
  rintro _ ⟨k, b, rfl, hk⟩
  simp only [L8, go_sem, ↓reduceIte]
  exact ⟨_, _, rfl, hk⟩
theorem C0 (k : Int) : VP V TS [.i .i64 k] Q ↔ Q (.b (Ga k)) := by
 refine Aa ?_
 rw [A9 C.c_z159.1 C.c_z159.2]
 unfold Ga
 cases c1 : decide (k = 1) <;> cases c2 : decide (k = 2) <;> cases c3 : decide (k = 4) <;>
 simp only [Yy, Ue, go_sem, ↓reduceIte, c1, c2, c3]
/-- What names come of statements. -/
def A5C (V : Al) (l : List (List VV)) : Prop := ∀ out : List ByteArray, out.Nodup → (∀ n ∈ out, n ∈ N4) → VP V Mf [lS out, .ls l] fun x => ∃ o : List ByteArray, x = lS o ∧ o.Nodup ∧ (∀ n ∈ out, n ∈ o) ∧ (∀ n ∈ o, n ∈ N4) ∧ ∀ r ∈ l, RI o r
omit C in
theorem MT {o : List ByteArray} (h : o.Nodup) (h4 : ∀ n ∈ o, n ∈ N4) : o.length ≤ 4 := List.Nodup.length_le_of_subset h h4
theorem GW (l : List (List VV)) (hl : l.length ≤ 1000) (hs : ∀ s ∈ l, ∃ kind mode reg loc args th el, s = rS kind mode reg loc args th el ∧ (Ga kind = true → reg ∈ N4) ∧ A5C V th ∧ A5C V el) : A5C V l := by
 intro out hn h4
 rw [A9 C.c_z131.1 C.c_z131.2]
 simp only [Zs, Dj, go_sem, ↓reduceIte]
 refine Ak (by decide) l.length (by omega) (I := fun k F h => h = [] ∧ A1.tmp F 1 = .ls l ∧ ∃ o : List ByteArray, A1.tmp F 0 = lS o ∧ o.Nodup ∧ (∀ n ∈ out, n ∈ o) ∧ (∀ n ∈ o, n ∈ N4) ∧ ∀ j (hj : j < l.length), j < k → RI o l[j]) ?_ ?_ ?_ 0 _ _ (Nat.zero_le _) ?_ ?_
 ·rintro k F h hk p1 ⟨rfl, p2, o, p3, p4⟩
  simp only [Dj, go_sem, ↓reduceIte, p1, p2, p3]
  exact ⟨o, rfl, p4⟩
 ·rintro k F h hk p1 ⟨rfl, p2, o, p3, p4, p5, p6, p7⟩
  obtain ⟨kind, mode, reg, loc, args, th, el, e, hreg, a1, a2⟩ := hs _ (List.getElem_mem hk)
  have ho := MT p4 p6
  have hk2 := R5 hk
  rw [e] at hk2
  have fin : ∀ o2 : List ByteArray, o2.Nodup → (∀ n ∈ o, n ∈ o2) → (∀ n ∈ o2, n ∈ N4) → (Ga kind = true → reg ∈ o2) → VP V Mf [lS o2, .ls th] fun x => ∃ o3 : List ByteArray, x = lS o3 ∧ VP V Mf [lS o3, .ls el] fun x => ∃ o4 : List ByteArray, x = lS o4 ∧ o4.Nodup ∧ (∀ n ∈ out, n ∈ o4) ∧ (∀ n ∈ o4, n ∈ N4) ∧ ∀ j (hj : j < l.length), j < k + 1 → RI o4 l[j] := by
   intro o2 g1 g2 g3 g4
   refine (a1 o2 g1 g3).mono ?_
   rintro _ ⟨o3, rfl, q1, q2, q3, q4⟩
   refine ⟨o3, rfl, (a2 o3 q1 q3).mono ?_⟩
   rintro _ ⟨o4, rfl, r1, r2, r3, r4⟩
   refine ⟨o4, rfl, r1, fun n hn => r2 _ (q2 _ (g2 _ (p5 _ hn))), r3, fun j hj hjk => ?_⟩
   by_cases ej : j = k
   ·subst ej
    rw [e]
    exact .mk _ _ _ _ _ _ _ (fun h => r2 _ (q2 _ (g4 h))) (fun s hs => (q4 s hs).mono r2) r4
   ·exact (p7 j hj (by omega)).mono fun n hn => r2 _ (q2 _ (g2 _ hn))
  cases c0 : Ga kind with
  | false =>
   simp only [Dj, go_sem, ↓reduceIte, p1, p2, p3, hk2, C0 C, c0]
   refine (fin o p4 (fun n h => h) p6 (fun h => by rw [c0] at h; cases h)).mono ?_
   rintro _ ⟨o3, rfl, hv⟩
   simp only [Dj, go_sem, ↓reduceIte, p1, p2, p3, hk2]
   refine hv.mono ?_
   rintro _ ⟨o4, rfl, hv⟩
   simp only [Dj, go_sem, ↓reduceIte, p1, p2, p3, hk2]
   exact ⟨o4, rfl, hv⟩
  | true =>
   cases c1 : o.any fun y => decide (reg = y) with
   | true =>
    have hreg2 : reg ∈ o := by
     rw [List.any_eq_true] at c1
     obtain ⟨x, hx, e⟩ := c1
     rw [of_decide_eq_true e]; exact hx
    simp only [Dj, go_sem, ↓reduceIte, p1, p2, p3, hk2, C0 C, c0, CD C o reg (by omega), c1]
    refine (fin o p4 (fun n h => h) p6 (fun h => hreg2)).mono ?_
    rintro _ ⟨o3, rfl, hv⟩
    simp only [Dj, go_sem, ↓reduceIte, p1, p2, p3, hk2]
    refine hv.mono ?_
    rintro _ ⟨o4, rfl, hv⟩
    simp only [Dj, go_sem, ↓reduceIte, p1, p2, p3, hk2]
    exact ⟨o4, rfl, hv⟩
   | false =>
    have hreg2 : reg ∉ o := by
     intro h
     rw [List.any_eq_false] at c1
     simpa using c1 reg h
    have nd : (o ++ [reg]).Nodup := List.nodup_append.2 ⟨p4, by simp, by intro a ha b hb; simp at hb; subst hb; intro e; subst e; exact hreg2 ha⟩
    have sub : ∀ n ∈ o ++ [reg], n ∈ N4 := fun n hn => by
     rcases List.mem_append.1 hn with h | h
     ·exact p6 n h
     ·rw [List.mem_singleton.1 h]; exact hreg c0
    have f2 := fin (o ++ [reg]) nd (fun n h => List.mem_append_left _ h) sub (fun _ => by simp)
    have b0 : o.length * 16 ≤ A6 := by unfold A6; omega
    have b1 : (o.length + 1) * 16 ≤ A6 := by unfold A6; omega
    simp only [Dj, go_sem, ↓reduceIte, p1, p2, p3, hk2, C0 C, c0, CD C o reg (by omega), c1, b0, b1]
    refine f2.mono ?_
    rintro _ ⟨o3, rfl, hv⟩
    simp only [Dj, go_sem, ↓reduceIte, p1, p2, p3, hk2]
    refine hv.mono ?_
    rintro _ ⟨o4, rfl, hv⟩
    simp only [Dj, go_sem, ↓reduceIte, p1, p2, p3, hk2]
    exact ⟨o4, rfl, hv⟩
 ·rintro F h ⟨rfl, p2, o, p3, p4, p5, p6, p7⟩
  simp only [Dj, go_sem, ↓reduceIte, p3]
  refine ⟨o, rfl, p4, p5, p6, fun r hr => ?_⟩
  obtain ⟨j, hj, rfl⟩ := List.mem_iff_getElem.1 hr
  exact p7 j hj hj
 all_goals simp only [go_sem, ↓reduceIte]
 exact ⟨out, rfl, hn, fun n h => h, h4, fun j hj hjk => by omega⟩
theorem VZ {locs : List ByteArray} {r : List VV} (h : GS locs r) : ∃ kind mode reg loc args th el, r = rS kind mode reg loc args th el ∧ (Ga kind = true → reg ∈ N4) ∧ A5C V th ∧ A5C V el := by
 induction h with
 | mk kind mode reg loc args th el h1 h2 h3 h4 h5 h6 h7 ih1 ih2 => exact ⟨kind, mode, reg, loc, args, th, el, rfl, h7.rn, GW C th h3 ih1, GW C el h4 ih2⟩
theorem WK {locs : List ByteArray} (l : List (List VV)) (hl : l.length ≤ 1000) (h : ∀ s ∈ l, GS locs s) : VP V A1m [.ls l] fun x => ∃ o : List ByteArray, x = lS o ∧ o.Nodup ∧ (∀ n ∈ o, n ∈ N4) ∧ ∀ r ∈ l, RI o r := by
 rw [A9 C.c_z86.1 C.c_z86.2]
 simp only [A5L, WB, go_sem, ↓reduceIte]
 refine (GW C l hl (fun s hs => VZ C (h s hs)) [] (by simp) (by simp)).mono ?_
 rintro _ ⟨o, rfl, h1, h2, h3, h4⟩
 simp only [WB, go_sem, ↓reduceIte]
 exact ⟨o, rfl, h1, h3, h4⟩
end
end Go.AM
