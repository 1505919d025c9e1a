/-
  Own work, part of the proof of CoheAll: what functions compute (first part).
-/
import Derived.Test.YtpcpldaangchaaaGreatDoorCoF
import Derived.Test.YtpcpldaangchaaaGreatDoorPl
set_option maxRecDepth 4000
set_option linter.unusedVariables false
set_option linter.unusedSimpArgs false
set_option linter.unusedSectionVars false
set_option linter.unnecessarySimpa false
namespace Go.AM
open Go Go.Proofs
section
variable {V : At} (C : AS V) {Q : VV → Prop}
include C
theorem Jl (i : Int) : VP V A1Z [.i .i64 i] Q ↔ Q (vW (Cy i)) := by
 refine Ab ?_
 rw [A8 C.c_z81.1 C.c_z81.2]
 unfold Cy
 by_cases h0 : i < 0
 ·simp only [WO, SG, go_sem, ↓reduceIte, h0]
  rw [if_neg (by omega)]
 ·by_cases h1 : 64 ≤ i
  ·simp only [WO, SG, go_sem, ↓reduceIte, h0, h1]
   rw [if_neg (by omega)]
  ·obtain ⟨n, rfl⟩ := Int.eq_ofNat_of_zero_le (by omega : 0 ≤ i)
   simp only [WO, SG, go_sem, ↓reduceIte, h0, h1, Acj (show n < 64 by omega)]
   rw [if_pos (by omega)]
theorem AX (s : BitVec 64) (i : Int) : VP V A2M [vW s, .i .i64 i] Q ↔ Q (.b (BR s i)) := by
 refine Ab ?_
 rw [A8 C.c_z35.1 C.c_z35.2]
 simp only [A7e, A1v, go_sem, ↓reduceIte, Jl C, A9Q]
theorem D6 (s : BitVec 64) (i : Int) : VP V A28 [vW s, .i .i64 i] Q ↔ Q (vW (s ||| Cy i)) := by
 refine Ab ?_
 rw [A8 C.c_z91.1 C.c_z91.2]
 simp only [A5s, A2U, go_sem, ↓reduceIte, Jl C]
theorem Lc (s t : BitVec 64) : VP V VW [vW s, vW t] Q ↔ Q (.b (decide (s &&& ~~~t = 0#64))) := by
 refine Ab ?_
 rw [A8 C.c_z100.1 C.c_z100.2]
 simp only [ZJ, Vg, go_sem, ↓reduceIte]
theorem Nb (xs : List Int) (hl : xs.length < 9223372036854775807) : VP V A1l [lI xs] Q ↔ Q (vW (Dv xs)) := by
 refine Ab ?_
 rw [A8 C.c_z49.1 C.c_z49.2]
 simp only [A6C, SP, go_sem, ↓reduceIte]
 refine Am (by decide) xs.length hl (I := fun k F h => h = [] ∧ A3.tmp F 6 = lI xs ∧ A3.tmp F 3 = vW (Dv (xs.take k))) ?_ ?_ 0 _ _ (by omega) ?_ ?_ ?_
 ·rintro k F h hk h1 h2 ⟨rfl, h3, h4⟩
  simp only [SP, go_sem, ↓reduceIte, h1, h2, h3, h4, List.getElem?_eq_getElem hk, Jl C]
  rw [List.take_succ_eq_append_getElem hk]
  simp only [Dv, List.foldl_append, List.foldl_cons, List.foldl_nil]
 ·rintro F h ⟨rfl, h3, h4⟩
  rw [List.take_length] at h4
  simp only [SP, go_sem, ↓reduceIte, h4]
 all_goals simp only [go_sem, ↓reduceIte]
 all_goals rfl
theorem M3 (lo hi : Int) (hlo : lo < 9223372036854775808) : VP V Qm [.i .i64 lo, .i .i64 hi] Q ↔ Q (vW (D2 lo hi)) := by
 refine Ab ?_
 rw [A8 C.c_z128.1 C.c_z128.2]
 have hm : Ui false hi 64 = min hi 64 := by unfold Ui; simp only [cond_false]; split <;> omega
 have hm0 : Ui true lo 0 = max lo 0 := by unfold Ui; simp only [cond_true]; split <;> omega
 simp only [YX, Nt, go_sem, ↓reduceIte]
 unfold VL
 rw [A0]
 refine AG (M := Nat) (I := fun k F h => h = [] ∧ A3.tmp F 1 = .i .i64 hi ∧ A3.tmp F 6 = .i .i64 k ∧ A3.tmp F 5 = vW (Bz fun i => decide (lo ≤ (i : Int) ∧ i < k)) ∧ lo ≤ k ∧ (k : Int) ≤ max lo (max 0 (min hi 64))) (μ := fun k => 64 - k) ?_ (max lo 0).toNat _ _ ⟨rfl, ?_, ?_, ?_, ?_, ?_⟩
 ·rintro k F h ⟨rfl, h1, h2, h3, h4, h5⟩
  by_cases hk : (k : Int) < min hi 64
  ·simp only [Vd, Nt, go_sem, ↓reduceIte, h1, h2, h3, hm, hk, A0, Jl C]
   have hw : IntKind.i64.wrap ((k : Int) + 1) = ((k + 1 : Nat) : Int) := by rw [AE (by omega) (by omega)]; omega
   refine ⟨k + 1, by omega, ?_⟩
   rw [hw]
   refine ⟨rfl, ?_, by omega, by omega⟩
   rw [Mx _ _ (by omega)]
   congr 1
   apply Bd
   intro j hj
   by_cases e : j = k
   ·subst e; simp; omega
   ·by_cases e2 : j < k
    ·have : j < k + 1 := by omega
     simp [e, e2, this]
    ·have : ¬ j < k + 1 := by omega
     simp [e, e2, this]
  ·simp only [Vd, Nt, go_sem, ↓reduceIte, h1, h2, h3, hm, hk, Nat.beq_refl]
   congr 1
   apply Bd
   intro j hj
   by_cases e : lo ≤ (j : Int)
   ·have : (j < k) ↔ ((j : Int) < hi) := by omega
    simp [e, this]
   ·simp [e]
 ·simp only [go_sem, ↓reduceIte]
 ·simp only [go_sem, ↓reduceIte, hm0]
  omega
 ·simp only [go_sem, ↓reduceIte]
  rw [← Ge]
  congr 1
  apply Bd
  intro j hj
  simp
  omega
 ·omega
 ·omega
theorem Px (xs : List Int) (i : Int) (hl : xs.length < 1000) {Q : VV → VH → Prop} : LL V Nu [.p 1 0 0 0, .i .i64 i] [some (AP AU 1 (xs.map eI)), some ⟨GB, 0, 0, false, [[.sl 0 xs.length 0 xs.length]]⟩] Q ↔
  Q (.tu []) [some (AP AU 1 ((xs ++ [i]).map eI)), some ⟨GB, 0, 0, false, [[.sl 0 (xs ++ [i]).length 0 (xs ++ [i]).length]]⟩] := by
 refine MN ?_
 rw [EP C.h_z137]
 have h1 : (xs.length + 1) * 8 ≤ A6 := by unfold A6; omega
 simp only [Zx, Pu, go_sem, ↓reduceIte, h1]
theorem AjY (s : BitVec 64) (h : s ≠ 0#64) : VP V AL [vW s] Q ↔ Q (.i .i64 (Lib.ctz 64 s.toNat : Nat)) := by
 refine Ab ?_
 unfold VP
 rw [C.c_mathbits_TrailingZeros64]
 have := s.isLt
 refine ⟨.i .i64 (Lib.ctz 64 s.toNat : Nat), ?_, rfl, rfl⟩
 unfold Z0 vW
 simp only
 rw [if_pos (by omega), Int.toNat_natCast]
/-- What is added for each that a set has. -/
theorem WS (s : BitVec 64) : LL V K0 [vW s, .f Nu [.p 1 0 0 0] []] [some Do, some ⟨GB, 0, 0, false, [[.sl 0 0 0 0]]⟩]
  fun _ h => h = [some (AP AU 1 ((Az s).map eI)), some ⟨GB, 0, 0, false, [[.sl 0 (Az s).length 0 (Az s).length]]⟩] := by
 rw [EP C.h_z136]
 simp only [Nm, Jn, go_sem, ↓reduceIte]
 unfold VL
 rw [A0]
 refine AG (M := BitVec 64 × List Nat) (I := fun x F h => A3.tmp F 0 = vW x.1 ∧ A3.tmp F 1 = .f Nu [.p 1 0 0 0] [] ∧ x.2 ++ BX x.1 = BX s ∧ h = [some (AP AU 1 ((x.2.map fun (i : Nat) => (i : Int)).map eI)), some ⟨GB, 0, 0, false, [[.sl 0 x.2.length 0 x.2.length]]⟩]) (μ := fun x => (BX x.1).length) ?_ (s, []) _ _ ⟨?_, ?_, rfl, rfl⟩
 ·rintro ⟨t, l⟩ F h ⟨h1, h2, h3, rfl⟩
  simp only at h1 h2 h3 ⊢
  by_cases ht : t = 0#64
  ·subst ht
   rw [A0i, List.append_nil] at h3
   simp only [Jn, go_sem, ↓reduceIte, h1, h2, Az, h3]
  ·have hs := A16 ht
   have hl : l.length < 1000 := by
    have := congrArg List.length h3
    have h4 := Dj s
    simp only [Az, List.length_map, List.length_append] at this h4
    omega
   have hx := fun Q => Px C (l.map fun (i : Nat) => (i : Int)) (Lib.ctz 64 t.toNat : Nat) (by simpa using hl) (Q := Q)
   simp only [List.length_map, List.length_append, List.length_cons, List.length_nil] at hx
   simp only [Jn, go_sem, ↓reduceIte, h1, h2, ht, A0, AjY C t ht]
   rw [hx]
   refine ⟨?_, (t &&& (t - 1#64), l ++ [Lib.ctz 64 t.toNat]), ?_, rfl, ?_, ?_⟩
   ·simp only [go_sem]
   ·rw [hs]; simp
   ·rw [← h3, hs]; simp
   ·simp
 all_goals simp only [go_sem]
theorem DM (s : BitVec 64) : VP V A2D [vW s] Q ↔ Q (lI (Az s)) := by
 refine Ab ?_
 rw [A8 C.c_z92.1 C.c_z92.2]
 simp only [A6y, Wq, go_sem, ↓reduceIte, QN]
 obtain ⟨vf, h1, h2⟩ := WS C s
 refine ⟨vf, h1, h2.mono ?_⟩
 rintro v _ rfl
 simp only [Wq, go_sem, ↓reduceIte]
theorem DN (xs : List Int) (n : Int) (hl : xs.length < 9223372036854775807) : VP V A2d [lI xs, .i .i64 n] Q ↔ Q (.i .i64 (GN (fun y => decide (n = y)) xs)) := by
 refine Ab ?_
 rw [A8 C.c_z50.1 C.c_z50.2]
 simp only [A83, QF, go_sem, ↓reduceIte]
 refine Am (by decide) xs.length hl (I := fun k F h => h = [] ∧ A3.tmp F 0 = lI xs ∧ A3.tmp F 1 = .i .i64 n ∧ ∀ (j : Nat) (hj : j < xs.length), j < k → ¬ n = xs[j]) ?_ ?_ 0 _ _ (by omega) ?_ ?_ ?_
 ·rintro k F h hk h1 h2 ⟨rfl, h3, h4, h5⟩
  by_cases e : n = xs[k]
  ·subst e
   simp only [QF, go_sem, ↓reduceIte, h1, h2, h3, h4, List.getElem?_eq_getElem hk]
   rw [DJ hk (by simp) fun j hj => by simpa using h5 j (by omega) hj]
  ·simp only [QF, go_sem, ↓reduceIte, h1, h2, h3, h4, List.getElem?_eq_getElem hk, e]
   intro j hj hjk
   by_cases e2 : j = k
   ·subst e2; exact e
   ·exact h5 j hj (by omega)
 ·rintro F h ⟨rfl, h3, h4, h5⟩
  simp only [QF, go_sem, ↓reduceIte]
  rw [Df fun x hx => by obtain ⟨j, hj, e⟩ := List.mem_iff_getElem.1 hx; rw [← e]; simpa using h5 j hj hj]
 all_goals simp only [go_sem, ↓reduceIte]
 all_goals first | rfl | (intro j hj hjk; omega)
theorem Gp (xs : List Int) (n : Int) (hl : xs.length < 9223372036854775807) : VP V A2m [lI xs, .i .i64 n] Q ↔ Q (.b (xs.any fun y => decide (n = y))) := by
 refine Ab ?_
 rw [A8 C.c_z53.1 C.c_z53.2]
 simp only [A5c, A2H, go_sem, ↓reduceIte, DN C _ _ hl, KF]
theorem EL (xs : List ByteArray) (n : ByteArray) (hl : xs.length < 9223372036854775807) : VP V W7 [lS xs, .s n] Q ↔ Q (.i .i64 (GN (fun y => decide (n = y)) xs)) := by
 refine Ab ?_
 rw [A8 C.c_z172.1 C.c_z172.2]
 simp only [A0c, Lu, go_sem, ↓reduceIte]
 refine Am (by decide) xs.length hl (I := fun k F h => h = [] ∧ A3.tmp F 0 = lS xs ∧ A3.tmp F 1 = .s n ∧ ∀ (j : Nat) (hj : j < xs.length), j < k → ¬ n = xs[j]) ?_ ?_ 0 _ _ (by omega) ?_ ?_ ?_
 ·rintro k F h hk h1 h2 ⟨rfl, h3, h4, h5⟩
  by_cases e : n = xs[k]
  ·subst e
   simp only [Lu, go_sem, ↓reduceIte, h1, h2, h3, h4, List.getElem?_eq_getElem hk]
   rw [DJ hk (by simp) fun j hj => by simpa using h5 j (by omega) hj]
  ·simp only [Lu, go_sem, ↓reduceIte, h1, h2, h3, h4, List.getElem?_eq_getElem hk, e]
   intro j hj hjk
   by_cases e2 : j = k
   ·subst e2; exact e
   ·exact h5 j hj (by omega)
 ·rintro F h ⟨rfl, h3, h4, h5⟩
  simp only [Lu, go_sem, ↓reduceIte]
  rw [Df fun x hx => by obtain ⟨j, hj, e⟩ := List.mem_iff_getElem.1 hx; rw [← e]; simpa using h5 j hj hj]
 all_goals simp only [go_sem, ↓reduceIte]
 all_goals first | rfl | (intro j hj hjk; omega)
theorem DY (xs : List ByteArray) (n : ByteArray) (hl : xs.length < 9223372036854775807) : VP V UV [lS xs, .s n] Q ↔ Q (.b (xs.any fun y => decide (n = y))) := by
 refine Ab ?_
 rw [A8 C.c_z142.1 C.c_z142.2]
 simp only [A17, VT, go_sem, ↓reduceIte, EL C _ _ hl, KF]
theorem DR (xs : List (BitVec 64)) (hl : xs.length < 9223372036854775807) {g : Nat} {a c : List VV} (ha : Fz a) (hc : Fz c) (p : (BitVec 64) → Bool) (hf : ∀ x, VP V g (a ++ [vW x] ++ c) fun r => r = .b (p x)) :
  VP V UO [lW xs, .f g a c] Q ↔ Q (.i .i64 (GN p xs)) := by
 refine Ab ?_
 rw [A8 C.c_z165.1 C.c_z165.2]
 simp only [A06, Lk, go_sem, ↓reduceIte]
 refine Am (by decide) xs.length hl (I := fun k F h => h = [] ∧ A3.tmp F 0 = lW xs ∧ A3.tmp F 1 = .f g a c ∧ ∀ (j : Nat) (hj : j < xs.length), j < k → p xs[j] = false) ?_ ?_ 0 _ _ (by omega) ?_ ?_ ?_
 ·rintro k F h hk h1 h2 ⟨rfl, h3, h4, h5⟩
  have hq := fun Q => Ab (hf xs[k]) (Q := Q)
  have hfz := ha.call hc (h := []) (x := [vW xs[k]]) rfl
  cases e : p xs[k] with
  | true =>
   simp only [Lk, go_sem, ↓reduceIte, h1, h2, h3, h4, List.getElem?_eq_getElem hk, hfz, hq, e]
   rw [DJ hk e fun j hj => h5 j (by omega) hj]
  | false =>
   simp only [Lk, go_sem, ↓reduceIte, h1, h2, h3, h4, List.getElem?_eq_getElem hk, hfz, hq, e]
   have hcl : MD 0 (.f g a c) = .f g a c := by
    have h1 : Ct 0 a = true := Fz.bel ha
    have h2 : Ct 0 c = true := Fz.bel hc
    simp [MD, bel, h1, h2]
   simp only [A79, Fz.bel ha, Fz.bel hc, Bool.and_self, cond_true, true_and]
   intro j hj hjk
   by_cases e2 : j = k
   ·subst e2; exact e
   ·exact h5 j hj (by omega)
 ·rintro F h ⟨rfl, h3, h4, h5⟩
  simp only [Lk, go_sem, ↓reduceIte]
  rw [Df fun x hx => by obtain ⟨j, hj, e⟩ := List.mem_iff_getElem.1 hx; rw [← e]; exact h5 j hj hj]
 all_goals simp only [go_sem, ↓reduceIte]
 all_goals first | rfl | (intro j hj hjk; omega)
theorem Dl (xs : List (BitVec 64)) (hl : xs.length < 9223372036854775807) {g : Nat} {a c : List VV} (ha : Fz a) (hc : Fz c) (p : (BitVec 64) → Bool) (hf : ∀ x, VP V g (a ++ [vW x] ++ c) fun r => r = .b (p x)) :
  VP V TV [lW xs, .f g a c] Q ↔ Q (.b (xs.any p)) := by
 refine Ab ?_
 rw [A8 C.c_z129.1 C.c_z129.2]
 simp only [A0P, UG, go_sem, ↓reduceIte, DR C xs hl ha hc p hf, Fz.eq ha, Fz.eq hc, KF]
theorem Ga (xs : List Int) (hl : xs.length < 9223372036854775807) {g : Nat} {a c : List VV} (ha : Fz a) (hc : Fz c) (p : Int → Bool) (hf : ∀ x, VP V g (a ++ [.i .i64 x] ++ c) fun r => r = .b (p x)) :
  VP V Ub [lI xs, .f g a c] Q ↔ Q (.i .i64 (GN p xs)) := by
 refine Ab ?_
 rw [A8 C.c_z188.1 C.c_z188.2]
 simp only [A0A, Ln, go_sem, ↓reduceIte]
 refine Am (by decide) xs.length hl (I := fun k F h => h = [] ∧ A3.tmp F 0 = lI xs ∧ A3.tmp F 1 = .f g a c ∧ ∀ (j : Nat) (hj : j < xs.length), j < k → p xs[j] = false) ?_ ?_ 0 _ _ (by omega) ?_ ?_ ?_
 ·rintro k F h hk h1 h2 ⟨rfl, h3, h4, h5⟩
  have hq := fun Q => Ab (hf xs[k]) (Q := Q)
  have hfz := ha.call hc (h := []) (x := [.i .i64 xs[k]]) rfl
  cases e : p xs[k] with
  | true =>
   simp only [Ln, go_sem, ↓reduceIte, h1, h2, h3, h4, List.getElem?_eq_getElem hk, hfz, hq, e]
   rw [DJ hk e fun j hj => h5 j (by omega) hj]
  | false =>
   simp only [Ln, go_sem, ↓reduceIte, h1, h2, h3, h4, List.getElem?_eq_getElem hk, hfz, hq, e]
   have hcl : MD 0 (.f g a c) = .f g a c := by
    have h1 : Ct 0 a = true := Fz.bel ha
    have h2 : Ct 0 c = true := Fz.bel hc
    simp [MD, bel, h1, h2]
   simp only [A79, Fz.bel ha, Fz.bel hc, Bool.and_self, cond_true, true_and]
   intro j hj hjk
   by_cases e2 : j = k
   ·subst e2; exact e
   ·exact h5 j hj (by omega)
 ·rintro F h ⟨rfl, h3, h4, h5⟩
  simp only [Ln, go_sem, ↓reduceIte]
  rw [Df fun x hx => by obtain ⟨j, hj, e⟩ := List.mem_iff_getElem.1 hx; rw [← e]; exact h5 j hj hj]
 all_goals simp only [go_sem, ↓reduceIte]
 all_goals first | rfl | (intro j hj hjk; omega)
theorem Ep (xs : List Int) (hl : xs.length < 9223372036854775807) {g : Nat} {a c : List VV} (ha : Fz a) (hc : Fz c) (p : Int → Bool) (hf : ∀ x, VP V g (a ++ [.i .i64 x] ++ c) fun r => r = .b (p x)) :
  VP V W6 [lI xs, .f g a c] Q ↔ Q (.b (xs.any p)) := by
 refine Ab ?_
 rw [A8 C.c_z174.1 C.c_z174.2]
 simp only [YW, SY, go_sem, ↓reduceIte, Ga C xs hl ha hc p hf, Fz.eq ha, Fz.eq hc, KF]
theorem EI (xs : List (List Int)) (hl : xs.length < 9223372036854775807) {g : Nat} {a c : List VV} (ha : Fz a) (hc : Fz c) (p : List Int → Bool) (hf : ∀ x ∈ xs, VP V g (a ++ [lI x] ++ c) fun r => r = .b (p x)) :
  VP V A1R [.ls (xs.map GZ), .f g a c] Q ↔ Q (.i .i64 (GN p xs)) := by
 refine Ab ?_
 rw [A8 C.c_z51.1 C.c_z51.2]
 simp only [A5D, QG, go_sem, ↓reduceIte]
 refine Am (by decide) xs.length hl (I := fun k F h => h = [] ∧ A3.tmp F 0 = .ls (xs.map GZ) ∧ A3.tmp F 1 = .f g a c ∧ ∀ (j : Nat) (hj : j < xs.length), j < k → p xs[j] = false) ?_ ?_ 0 _ _ (by omega) ?_ ?_ ?_
 ·rintro k F h hk h1 h2 ⟨rfl, h3, h4, h5⟩
  have hq := fun Q => Ab (hf xs[k] (List.getElem_mem hk)) (Q := Q)
  have hfz := ha.call hc (h := []) (x := [lI (xs[k])]) rfl
  cases e : p xs[k] with
  | true =>
   simp only [QG, go_sem, ↓reduceIte, h1, h2, h3, h4, List.getElem?_eq_getElem hk, hfz, hq, e]
   rw [DJ hk e fun j hj => h5 j (by omega) hj]
  | false =>
   simp only [QG, go_sem, ↓reduceIte, h1, h2, h3, h4, List.getElem?_eq_getElem hk, hfz, hq, e]
   have hcl : MD 0 (.f g a c) = .f g a c := by
    have h1 : Ct 0 a = true := Fz.bel ha
    have h2 : Ct 0 c = true := Fz.bel hc
    simp [MD, bel, h1, h2]
   simp only [A79, Fz.bel ha, Fz.bel hc, Bool.and_self, cond_true, true_and]
   intro j hj hjk
   by_cases e2 : j = k
   ·subst e2; exact e
   ·exact h5 j hj (by omega)
 ·rintro F h ⟨rfl, h3, h4, h5⟩
  simp only [QG, go_sem, ↓reduceIte]
  rw [Df fun x hx => by obtain ⟨j, hj, e⟩ := List.mem_iff_getElem.1 hx; rw [← e]; exact h5 j hj hj]
 all_goals simp only [go_sem, ↓reduceIte]
 all_goals first | rfl | (intro j hj hjk; omega)
theorem Ql (xs ys : List Int) (hl : xs.length < 9223372036854775807) : VP V XV [lI xs, lI ys] Q ↔ Q (.b (decide (xs = ys))) := by
 refine Ab ?_
 rw [A8 C.c_z54.1 C.c_z54.2]
 by_cases hxy : xs.length = ys.length
 ·simp only [A1T, NV, go_sem, ↓reduceIte, hxy]
  refine Am (by decide) ys.length (by omega) (I := fun k F h => h = [] ∧ A3.tmp F 0 = lI xs ∧ A3.tmp F 1 = lI ys ∧ ∀ (j : Nat) (hj : j < xs.length) (hj' : j < ys.length), j < k → xs[j] = ys[j]) ?_ ?_ 0 _ _ (by omega) ?_ ?_ ?_
  ·rintro k F h hk h1 h2 ⟨rfl, h3, h4, h5⟩
   have hk' : k < xs.length := by omega
   by_cases e : xs[k] = ys[k]
   ·simp only [NV, go_sem, ↓reduceIte, h1, h2, h3, h4, List.getElem?_eq_getElem hk, List.getElem?_eq_getElem hk', e]
    intro j hj hj' hjk
    by_cases e2 : j = k
    ·subst e2; exact e
    ·exact h5 j hj hj' (by omega)
   ·simp only [NV, go_sem, ↓reduceIte, h1, h2, h3, h4, List.getElem?_eq_getElem hk, List.getElem?_eq_getElem hk', e]
    refine (decide_eq_false ?_).symm
    rintro rfl
    exact e rfl
  ·rintro F h ⟨rfl, h3, h4, h5⟩
   simp only [NV, go_sem, ↓reduceIte]
   exact (decide_eq_true (List.ext_getElem hxy fun j hj hj' => h5 j hj hj' hj')).symm
  all_goals simp only [go_sem, ↓reduceIte]
  all_goals first | rfl | (intro j hj hj' hjk; omega)
 ·simp only [A1T, NV, go_sem, ↓reduceIte, Int.natCast_inj, hxy]
  refine (decide_eq_false ?_).symm
  rintro rfl
  exact hxy rfl
end
end Go.AM

namespace Go.AM
open Go Go.Proofs
@[go_sem] theorem Sn {n k : Nat} {f : Nat → BitVec 64} {z : BitVec 64} : ((CA n k f z).map eW).set k [vW (f k)] = (CA n (k + 1) f z).map eW := Mo eW
@[go_sem] theorem AdB {n k : Nat} {f : Nat → Int} {z : Int} : ((CA n k f z).map eI).set k [.i .i64 (f k)] = (CA n (k + 1) f z).map eI := Mo eI
@[go_sem] theorem Adu {α : Type} {n k : Nat} {f : Nat → α} {z : α} : (CA n k f z).take n = CA n k f z := by rw [List.take_of_length_le]; rw [PC]; exact Nat.le_refl n
attribute [go_sem] PC List.length_range
@[go_sem] theorem Acu (n : Nat) : (List.range n).take n = List.range n := by rw [List.take_of_length_le]; simp
@[go_sem] theorem Am3 (n : Nat) (w : BitVec 64) : List.replicate n [vW w] = (List.replicate n w).map eW := by simp
@[go_sem] theorem Amj (n : Nat) (w : Int) : List.replicate n [VV.i .i64 w] = (List.replicate n w).map eI := by simp
abbrev eP (p : Int × Int) : List VV := [.i .i64 p.1, .i .i64 p.2]
abbrev lP (l : List (Int × Int)) : VV := .ls (l.map eP)
@[go_sem] theorem AiW (xs : List (Int × Int)) (x y : Int) : xs.map eP ++ [[.i .i64 x, .i .i64 y]] = (xs ++ [(x, y)]).map eP := by simp
theorem Fz.of {a : List VV} (h : ∀ h d, AW (frz h (d + 3)) a = some (a, [])) : Fz a := h
section
variable {V : At} (C : AS V) {Q : VV → Prop}
include C
theorem Y5 (x all : BitVec 64) : VP V PH [vW x, .fp [vW all] 0] Q ↔ Q (.b (!decide (x &&& ~~~all = 0#64))) := by
 refine Ab ?_
 rw [A8 C.c_z130.1 C.c_z130.2]
 simp only [Yw, VK, go_sem, ↓reduceIte, Lc C]
theorem DL (r : BY) : VP V Y2 [lW r] Q ↔ Q (.b (Dn r)) := by
 refine Ab ?_
 rw [A8 C.c_z84.1 C.c_z84.2]
 by_cases hl : r.length ≤ 64
 ·have hl' : ¬ (64 : Int) < r.length := by omega
  simp only [A1K, XY, go_sem, ↓reduceIte, hl', M3 C 0 _ (by omega),
   Dl C r (by omega) (g := PH) (a := []) (c := [.fp [vW (D2 0 r.length)] 0]) Fz.nil (fun _ _ => rfl) (fun x => !decide (x &&& ~~~(D2 0 r.length) = 0#64)) (fun x => (Y5 C _ _).2 rfl)]
  simp only [Dn, hl, go_sem, List.not_any_eq_all_not, Bool.not_not]
 ·have hl' : (64 : Int) < r.length := by omega
  simp only [A1K, XY, go_sem, ↓reduceIte, hl', Bool.true_eq_false]
  simp [Dn, hl]
theorem YU {n : Nat} (hl : n ≤ 1000) {gf : Nat} {a c : List VV} (ha : Fz a) (hc : Fz c) (row : Nat → BitVec 64)
  (hp : ∀ (i : Nat), i < n → VP V gf (a ++ [.i .i64 (i : Nat)] ++ c) fun r => r = vW (row i)) :
  VP V Qh [.i .i64 n, .f gf a c] Q ↔ Q (lW ((List.range n).map row)) := by
 refine Ab ?_
 rw [A8 C.c_z118.1 C.c_z118.2]
 have h0 : n * 8 ≤ A6 := by unfold A6; omega
 simp only [Tf, Jm, go_sem, ↓reduceIte, h0, Int.le_refl]
 refine Am (by decide) n (by omega) (I := fun k F h => A3.tmp F 1 = .f gf a c ∧ A3.tmp F 5 = .sl 0 0 0 n ∧ h = [some ⟨Bj, 1, 0, false, (CA n k row 0#64).map eW⟩]) ?_ ?_ 0 _ _ (by omega) ?_ ?_ ?_
 ·rintro k F h hk h1 h2 ⟨h3, h4, rfl⟩
  have hq := fun Q => Ab (hp k hk) (Q := Q)
  have hfz := ha.call hc (h := [some ⟨Bj, 1, 0, false, (CA n k row 0#64).map eW⟩]) (x := [.i .i64 (k : Nat)]) rfl
  simp only [Jm, go_sem, ↓reduceIte, h1, h2, h3, h4, hk, hfz, hq, HS hk, Fz.bel ha, Fz.bel hc]
 ·rintro F h ⟨h3, h4, rfl⟩
  simp only [Jm, go_sem, ↓reduceIte, h4, Gz]
 all_goals simp only [go_sem, ↓reduceIte]
 all_goals first | rfl | rw [Eh]
theorem X6 {n : Nat} (hl : n ≤ 1000) {gf : Nat} {a c : List VV} (ha : Fz a) (hc : Fz c) (row : Nat → BitVec 64) (b0 : Nat) {Q' : VV → VH → Prop}
  (hp : ∀ (i : Nat), i < n → VP V gf (a ++ [.i .i64 (i : Nat)] ++ c) fun r => r = vW (row i)) :
  Yq V Qh [.i .i64 n, .f gf a c] b0 Q' ↔ Q' (.sl b0 0 0 n) [some ⟨Bj, 1, 0, false, ((List.range n).map row).map eW⟩] := by
 refine LP ?_
 rw [Lj C.c_z118.2]
 have h0 : n * 8 ≤ A6 := by unfold A6; omega
 simp only [Tf, Jm, go_sem, ↓reduceIte, h0, Int.le_refl]
 refine Am (by decide) n (by omega) (I := fun k F h => A3.tmp F 1 = .f gf a c ∧ A3.tmp F 5 = .sl 0 0 0 n ∧ h = [some ⟨Bj, 1, 0, false, (CA n k row 0#64).map eW⟩]) ?_ ?_ 0 _ _ (by omega) ?_ ?_ ?_
 ·rintro k F h hk h1 h2 ⟨h3, h4, rfl⟩
  have hq := fun Q => Ab (hp k hk) (Q := Q)
  have hfz := ha.call hc (h := [some ⟨Bj, 1, 0, false, (CA n k row 0#64).map eW⟩]) (x := [.i .i64 (k : Nat)]) rfl
  simp only [Jm, go_sem, ↓reduceIte, h1, h2, h3, h4, hk, hfz, hq, HS hk, Fz.bel ha, Fz.bel hc]
 ·rintro F h ⟨h3, h4, rfl⟩
  simp only [Jm, go_sem, ↓reduceIte, h4, Gz, Bm]
  simp
 all_goals simp only [go_sem, ↓reduceIte]
 all_goals first | rfl | rw [Eh]
theorem Kg (a b : BY) : VP V Uk [.ag [lW a, lW b]] Q ↔ Q (.b (Dn a && Dn b && decide (a.length = b.length))) := by
 refine Ab ?_
 rw [A8 C.c_z162.1 C.c_z162.2]
 cases hma : Dn a <;> cases hmb : Dn b <;>
  simp only [A0O, UL, go_sem, ↓reduceIte, DL C, hma, hmb, Int.natCast_inj]
omit C in
theorem Ds {a : BY} {i : Nat} (h : i < a.length) : a[i]? = some (a.getD i 0#64) := by rw [A8q h, List.getElem?_eq_getElem h]
theorem Ri (a b : BY) {i : Nat} (hi : i < a.length) (hi' : i < b.length) : VP V R1 [.ag [lW a, lW b], .i .i64 i] Q ↔ Q (vW (a.getD i 0#64 ||| b.getD i 0#64)) := by
 refine Ab ?_
 rw [A8 C.c_z117.1 C.c_z117.2]
 simp only [Z6, VU, go_sem, ↓reduceIte, Ds hi, Ds hi']
theorem Pc (a b : BY) {gf : Nat} {fa fc : List VV} (ha : Fz fa) (hc : Fz fc) (row : Nat → BitVec 64)
  (hp : a.length = b.length → a.length ≤ 64 → ∀ (i : Nat), i < a.length → VP V gf (fa ++ [.i .i64 (i : Nat)] ++ fc) fun r => r = vW (row i)) :
  VP V T9 [.ag [lW a, lW b], .f gf fa fc] Q ↔ Q (lW (if Dn a && Dn b && decide (a.length = b.length) then (List.range a.length).map row else [])) := by
 refine Ab ?_
 rw [A8 C.c_z116.1 C.c_z116.2]
 cases hm : (Dn a && Dn b && decide (a.length = b.length)) with
 | false => simp only [U6, PK, go_sem, ↓reduceIte, Kg C, hm, Bool.false_eq_true]
 | true =>
  have hm' := hm
  simp only [Bool.and_eq_true, decide_eq_true_eq] at hm'
  have hl := KE hm'.1.1
  simp only [U6, PK, go_sem, ↓reduceIte, Kg C, hm, YU C (show a.length ≤ 1000 by omega) ha hc row (fun i hi => hp hm'.2 hl i hi), Fz.eq ha, Fz.eq hc]
theorem A5O (a b : BY) : VP V A3d [lW a, lW b] Q ↔ Q (lW (orF a b)) := by
 refine Ab ?_
 rw [A8 C.c_z72.1 C.c_z72.2]
 simp only [A6A, A3z, go_sem, ↓reduceIte,
  Pc C a b (gf := R1) (fa := [.ag [lW a, lW b]]) (fc := []) (fun _ _ => rfl) Fz.nil (fun i => a.getD i 0#64 ||| b.getD i 0#64) (fun h1 h2 i hi => (Ri C a b hi (by omega)).2 rfl)]
 rfl
theorem A0b (a : BY) (hl : a.length ≤ 64) (s : BitVec 64) : VP V V7 [lW a, vW s] Q ↔ Q (vW (E9 a s)) := by
 refine Ab ?_
 rw [A8 C.c_z168.1 C.c_z168.2]
 simp only [Zi, MK, go_sem, ↓reduceIte, M3 C 0 _ (by omega), DM C]
 have hlen := Dj (s &&& D2 0 a.length)
 have hmem : ∀ i, i ∈ BX (s &&& D2 0 a.length) → i < a.length := by
  intro i hi
  have := (Qg hi).2
  rw [BitVec.getLsbD_and, D2, AH] at this
  simp at this
  omega
 unfold E9
 unfold Az at hlen ⊢
 generalize BX (s &&& D2 0 a.length) = L at *
 refine Am (by decide) (L.map fun (i : Nat) => (i : Int)).length (by omega) (I := fun k F h => h = [] ∧ A3.tmp F 0 = lW a ∧ A3.tmp F 13 = lI (L.map fun (i : Nat) => (i : Int)) ∧ A3.tmp F 5 = vW ((L.take k).foldl (fun x i => x ||| a.getD i 0#64) 0#64)) ?_ ?_ 0 _ _ (by omega) ?_ ?_ ?_
 ·rintro k F h hk h2 h3 ⟨rfl, h4, h5, h6⟩
  have hk' : k < L.length := by simpa using hk
  simp only [MK, go_sem, ↓reduceIte, h2, h3, h4, h5, h6, List.getElem?_eq_getElem hk', Ds (hmem _ (List.getElem_mem hk'))]
  rw [List.take_succ_eq_append_getElem hk', List.foldl_append, List.foldl_cons, List.foldl_nil]
 ·rintro F h ⟨rfl, h4, h5, h6⟩
  rw [List.length_map, List.take_length] at h6
  simp only [MK, go_sem, ↓reduceIte, h6]
 all_goals simp only [go_sem, ↓reduceIte]
 all_goals rfl
theorem Yt (a : BY) (hm : Dn a = true) (s : BitVec 64) : VP V UR [lW a, vW s] Q ↔ Q (vW (E9 a s)) := by
 refine Ab ?_
 rw [A8 C.c_z135.1 C.c_z135.2]
 simp only [A09, U2, go_sem, ↓reduceIte, DL C, hm, A0b C a (KE hm)]
theorem La (a : BY) (hm : Dn a = true) (s : BitVec 64) : VP V LO [lW a, vW s] Q ↔ Q (vW (E9 a s)) := by
 refine Ab ?_
 rw [A8 C.c_z115.1 C.c_z115.2]
 simp only [A00, Uc, go_sem, ↓reduceIte, Yt C a hm]
theorem RM (a : BY) (hm : Dn a = true) (s : BitVec 64) : VP V Rb [lW a, vW s, .f LO [] []] Q ↔ Q (vW (EX a s)) := by
 refine Ab ?_
 rw [A8 C.c_z114.1 C.c_z114.2]
 simp only [Z8, Nr, go_sem, ↓reduceIte]
 unfold VL
 rw [A0]
 refine AG (M := BitVec 64) (I := fun t F h => h = [] ∧ A3.tmp F 0 = lW a ∧ A3.tmp F 1 = vW t ∧ A3.tmp F 2 = .f LO [] [] ∧ EX a t = EX a s) (μ := fun t => 18446744073709551616 - t.toNat) ?_ s _ _ ⟨rfl, ?_, ?_, ?_, rfl⟩
 ·rintro t F h ⟨rfl, h0, h1, h2, h3⟩
  have hs := Zn a t
  by_cases e : t ||| E9 a t = t
  ·rw [if_pos e] at hs
   simp only [UA, Nr, go_sem, ↓reduceIte, h0, h1, h2, A0, La C a hm, e]
   rw [← h3, hs]
  ·rw [if_neg e] at hs
   simp only [UA, Nr, go_sem, ↓reduceIte, h0, h1, h2, A0, La C a hm, e]
   have := Kk e
   have := (t ||| E9 a t).isLt
   exact ⟨t ||| E9 a t, by omega, rfl, by rw [← h3, hs]⟩
 all_goals simp only [go_sem, ↓reduceIte]
theorem Uq (a : BY) : VP V A23 [lW a] Q ↔ Q (lW (Et a)) := by
 refine Ab ?_
 rw [A8 C.c_z71.1 C.c_z71.2]
 cases hm : Dn a with
 | false => simp only [A3h, QO, go_sem, ↓reduceIte, DL C, hm, Et, Bool.false_eq_true]
 | true =>
  have hl := KE hm
  have h0 : a.length * 8 ≤ A6 := by unfold A6; omega
  simp only [A3h, QO, go_sem, ↓reduceIte, DL C, hm, h0, Int.le_refl]
  refine Am (by decide) a.length (by omega) (I := fun k F h => A3.tmp F 0 = lW a ∧ A3.tmp F 12 = lW a ∧ A3.tmp F 3 = .sl 0 0 0 a.length ∧ h = [some ⟨Bj, 1, 0, false, (CA a.length k (fun i => EX a (a.getD i 0#64)) 0#64).map eW⟩]) ?_ ?_ 0 _ _ (by omega) ?_ ?_ ?_
  ·rintro k F h hk h1 h2 ⟨h3, h4, h5, rfl⟩
   have hu := Sn (n := a.length) (k := k) (f := fun i => EX a (a.getD i 0#64)) (z := 0#64)
   simp only [QO, go_sem, ↓reduceIte, h1, h2, h3, h4, h5, hk, Ds hk, RM C a hm, HS hk, hu]
  ·rintro F h ⟨h3, h4, h5, rfl⟩
   simp only [QO, go_sem, ↓reduceIte, h5, Gz, Et, hm]
  all_goals simp only [go_sem, ↓reduceIte]
  all_goals first | rfl | rw [Eh]
theorem QB (a : BY) (s : BitVec 64) {i : Nat} (hi : i < a.length) : VP V PG [.ag [lW a, vW s], .i .i64 i] Q ↔ Q (vW (if BR s (i : Int) then a.getD i 0#64 &&& s else 0#64)) := by
 refine Ab ?_
 rw [A8 C.c_z119.1 C.c_z119.2]
 cases hh : BR s (i : Int) <;> simp only [A0z, Vk, go_sem, ↓reduceIte, AX C, hh, Ds hi, Bool.false_eq_true]
theorem Zh (a : BY) (s : BitVec 64) : VP V A3e [lW a, vW s] Q ↔ Q (lW (Xe a s)) := by
 refine Ab ?_
 rw [A8 C.c_z73.1 C.c_z73.2]
 cases hm : Dn a with
 | false => simp only [A2A, Wh, go_sem, ↓reduceIte, DL C, hm, Xe, Bool.false_eq_true]
 | true =>
  have hl := KE hm
  simp only [A2A, Wh, go_sem, ↓reduceIte, DL C, hm, Xe,
   X6 C (show a.length ≤ 1000 by omega) (gf := PG) (a := [.ag [lW a, vW s]]) (c := []) (fun _ _ => rfl) Fz.nil (fun (i : Nat) => if BR s (i : Int) then a.getD i 0#64 &&& s else 0#64) 0 (fun i hi => (QB C a s hi).2 rfl)]
theorem A0u (n : Nat) (hn : n ≤ 64) (b : Nat) {Q : VV → VH → Prop} : Yq V A2I [.i .i64 n] b Q ↔ Q (.sl b 0 0 n) [some ⟨Bj, 1, 0, false, (List.replicate n 0#64).map eW⟩] := by
 refine LP ?_
 rw [Lj C.c_z43.2]
 have h0 : n * 8 ≤ A6 := by unfold A6; omega
 have h1 : ¬ (64 : Int) < n := by omega
 have h2 : ¬ (n : Int) < 0 := by omega
 simp only [A7U, My, go_sem, ↓reduceIte, h0, h1, h2, Int.le_refl, Bm]
 simp
theorem Xf (a : BY) : VP V XO [lW a] Q ↔ Q (lP (CM a)) := by
 refine Ab ?_
 rw [A8 C.c_z69.1 C.c_z69.2]
 cases hm : Dn a with
 | false => simp only [A3r, M7, go_sem, ↓reduceIte, DL C, hm, CM, Bool.false_eq_true, QN]
 | true =>
  have hl := KE hm
  simp only [A3r, M7, go_sem, ↓reduceIte, DL C, hm, QN]
  refine Am (by decide) a.length (by omega) (I := fun k F h => A3.tmp F 12 = lW a ∧ ∃ l, l = ((List.range k).flatMap (fun (i : Nat) => (Az (a.getD i 0#64)).map fun j => ((i : Int), j))) ∧ A3.tmp F 3 = .sl 0 l.length 0 l.length ∧ h = [some (AP A1L 2 (l.map eP))]) ?_ ?_ 0 _ _ (by omega) ?_ ?_ ?_
  ·rintro k F h hk h1 h2 ⟨h3, l, hl', h4, rfl⟩
   simp only [M7, go_sem, ↓reduceIte, h1, h2, h3, h4, Ds hk, DM C]
   have hll := Dj (a.getD k 0#64)
   have hpl := Sk a k
   rw [← hl'] at hpl
   refine Am (by decide) (Az (a.getD k 0#64)).length (by omega) (I := fun m F h => A3.tmp F 14 = .i .i64 k ∧ A3.tmp F 13 = .i .i64 a.length ∧ A3.tmp F 12 = lW a ∧ A3.tmp F 20 = lI (Az (a.getD k 0#64)) ∧ A3.tmp F 4 = .i .i64 k ∧ ∃ l', l' = l ++ ((Az (a.getD k 0#64)).take m).map (fun j => ((k : Int), j)) ∧ A3.tmp F 3 = .sl 0 l'.length 0 l'.length ∧ h = [some (AP A1L 2 (l'.map eP))]) ?_ ?_ 0 _ _ (by omega) ?_ ?_ ?_
   ·rintro m G h hm' j1 j2 ⟨j4, j5, j6, j7, j8, l', hl2, j9, rfl⟩
    have hb : (l'.length + 1) * 16 ≤ A6 := by
     have : l'.length ≤ 10000 := by
      rw [hl2, List.length_append, List.length_map, List.length_take]; omega
     unfold A6; omega
    simp only [M7, go_sem, ↓reduceIte, j1, j2, j4, j5, j6, j7, j8, j9, List.getElem?_eq_getElem hm', hb]
    refine ⟨_, ?_, by rw [List.length_append]; rfl, rfl⟩
    rw [hl2, List.take_succ_eq_append_getElem hm', List.map_append, List.append_assoc]; rfl
   ·rintro G h ⟨j4, j5, j6, j7, j8, l', hl2, j9, rfl⟩
    simp only [M7, go_sem, ↓reduceIte, j4, j5, j6, j9]
    refine ⟨_, ?_, rfl, rfl⟩
    rw [hl2, List.take_length, hl', List.flatMap_append]; simp
   all_goals simp only [go_sem, ↓reduceIte, h1, h2, h3, h4]
   all_goals first | rfl | exact ⟨l, by simp, rfl, rfl⟩
  ·rintro F h ⟨h3, l, hl', h4, rfl⟩
   simp only [M7, go_sem, ↓reduceIte, h4, CM, hm, ← hl']
  all_goals simp only [go_sem, ↓reduceIte]
  all_goals first | rfl | exact ⟨[], rfl, rfl, rfl⟩
end
end Go.AM

namespace Go.AM
open Go Go.Proofs
theorem A9I {e : Option Pa} (s : BitVec 64) {n : Nat} (h : n < 64) : B4 .shr e (Wd s) (.i .u64 n) = some (Wd (s >>> n)) := by
 have h0 : ¬ ((n : Int) < 0) := by omega
 simp only [Wd, B4, Gn, if_neg h0, IntKind.bits, Option.some.injEq, AV.i.injEq, true_and, Int.toNat_natCast]
 rw [Nat.min_eq_left (by omega), BitVec.toNat_ushiftRight, Nat.shiftRight_eq_div_pow]
 rw [show ((2 : Int) ^ n) = ((2 ^ n : Nat) : Int) by simp, Int.fdiv_eq_ediv_of_nonneg _ (Int.natCast_nonneg _)]
 rfl
theorem Aa8 {e : Option Pa} (s : BitVec 64) : B4 .rem e (Wd s) (.i .u64 2) = some (Wd (if s.getLsbD 0 then 1#64 else 0#64)) := by
 rw [Wd, A5A (by decide)]
 simp only [Option.some.injEq, Wd, AV.i.injEq, true_and]
 have h0 : s.getLsbD 0 = decide (s.toNat % 2 = 1) := by
  show s.toNat.testBit 0 = _
  simp [Nat.testBit_zero]
 rw [h0]
 have : (s.toNat : Int).tmod 2 = ((s.toNat % 2 : Nat) : Int) := by
  rw [Int.tmod_eq_emod_of_nonneg (Int.natCast_nonneg _)]
  rfl
 rw [this]
 by_cases h : s.toNat % 2 = 1
 ·simp [h]
 ·have : s.toNat % 2 = 0 := by omega
  simp [this]
theorem A9y {e : Option Pa} (s : BitVec 64) {n : Nat} (h : n < 64) : B1 .shr e (vW s) (.i .u64 n) = some (vW (s >>> n)) := by
 show (B4 .shr e (Wd s) (.i .u64 n)).bind G8 = _
 rw [A9I s h]; rfl
theorem A9r {e : Option Pa} (s : BitVec 64) : B1 .rem e (vW s) (.i .u64 2) = some (vW (if s.getLsbD 0 then 1#64 else 0#64)) := by
 show (B4 .rem e (Wd s) (.i .u64 2)).bind G8 = _
 rw [Aa8 s]; rfl
section
variable {V : At} (C : AS V) {Q : VV → Prop}
include C
theorem CV (s : BitVec 64) (i : Int) : VP V A22 [vW s, .i .i64 i] Q ↔ Q (.b (BR s i)) := by
 refine Ab ?_
 rw [A8 C.c_z83.1 C.c_z83.2]
 by_cases h0 : i < 0
 ·have : BR s i = false := by unfold BR; simp; omega
  simp only [XU, Se, go_sem, ↓reduceIte, h0, this]
 ·by_cases h1 : 63 < i
  ·have : BR s i = false := by
    unfold BR
    rw [BitVec.getLsbD_of_ge _ _ (by omega)]
    simp
   simp only [XU, Se, go_sem, ↓reduceIte, h0, h1, this]
  ·obtain ⟨n, rfl⟩ := Int.eq_ofNat_of_zero_le (by omega : 0 ≤ i)
   have hw : IntKind.u64.wrap (n : Int) = n := by rw [HH]; omega
   have hs : ∀ e, B1 .shr e (vW s) (.i .u64 (n : Int)) = some (vW (s >>> n)) := fun e => A9y s (by omega)
   simp only [XU, Se, go_sem, ↓reduceIte, h0, h1, hw, hs, A9r]
   rw [AT, BitVec.getLsbD_ushiftRight, Nat.add_zero]
   cases s.getLsbD n <;> rfl
theorem Dt (s t : BitVec 64) : VP V A1z [vW s, vW t] Q ↔ Q (.b (decide (s ||| t = t))) := by
 refine Ab ?_
 rw [A8 C.c_z11.1 C.c_z11.2]
 simp only [A5U, A25, go_sem, ↓reduceIte]
theorem Uv (n : Nat) (hn : n < 64) : VP V TA [.i .i64 n] Q ↔ Q (vW (1#64 <<< n)) := by
 refine Ab ?_
 rw [A8 C.c_z110.1 C.c_z110.2]
 simp only [ZS, LS, go_sem, ↓reduceIte]
 refine Ad (by decide) n (by omega) (I := fun k F h => h = [] ∧ A3.tmp F 0 = .i .i64 n ∧ A3.tmp F 3 = vW (1#64 <<< k)) ?_ ?_ ?_ 0 _ _ (Nat.zero_le _) ?_ ?_
 ·rintro k F h hk h1 ⟨rfl, h2, h3⟩
  simp only [LS, go_sem, ↓reduceIte, h1, h2, h3]
 ·rintro k F h hk h1 ⟨rfl, h2, h3⟩
  simp only [LS, go_sem, ↓reduceIte, h1, h2, h3]
  congr 1
  apply BitVec.eq_of_toNat_eq
  rw [BitVec.toNat_add, BitVec.toNat_shiftLeft, BitVec.toNat_shiftLeft]
  simp only [Nat.shiftLeft_eq]
  have : (1#64).toNat = 1 := rfl
  rw [this, Nat.pow_succ]
  omega
 ·rintro F h ⟨rfl, h2, h3⟩
  simp only [LS, go_sem, ↓reduceIte, h3]
 all_goals simp only [go_sem, ↓reduceIte]
 all_goals rfl
theorem DD (s : BitVec 64) (i : Int) : VP V A1k [vW s, .i .i64 i] Q ↔ Q (vW (s ||| Cy i)) := by
 refine Ab ?_
 rw [A8 C.c_z64.1 C.c_z64.2]
 by_cases h0 : i < 0
 ·have : Cy i = 0#64 := by unfold Cy; rw [if_neg (by omega)]
  simp only [SM, Q3, go_sem, ↓reduceIte, h0, this, BitVec.or_zero]
 ·by_cases h1 : 63 < i
  ·have : Cy i = 0#64 := by unfold Cy; rw [if_neg (by omega)]
   simp only [SM, Q3, go_sem, ↓reduceIte, h0, h1, this, BitVec.or_zero]
  ·obtain ⟨n, rfl⟩ := Int.eq_ofNat_of_zero_le (by omega : 0 ≤ i)
   have h1f : Cy (n : Int) = 1#64 <<< n := by unfold Cy; rw [if_pos (by omega)]; rfl
   cases hb : BR s n with
   | true =>
    simp only [SM, Q3, go_sem, ↓reduceIte, h0, h1, CV C, hb]
    congr 1
    apply BV
    intro j hj
    rw [BitVec.getLsbD_or, Cz]
    by_cases e : j = n
    ·subst e; rw [AT] at hb; simp [hb]
    ·have : ¬ ((j : Int) = n) := by omega
     simp [this]
   | false =>
    simp only [SM, Q3, go_sem, ↓reduceIte, h0, h1, CV C, hb, Uv C n (by omega)]
    congr 1
    rw [h1f]
    apply BitVec.add_eq_or_of_and_eq_zero
    rw [← h1f, NR]
    rw [AT] at hb
    simp [hb]
theorem A4F (r : BY) (a b : Int) (hl : r.length < 9223372036854775807) : VP V A1j [lW r, .i .i64 a, .i .i64 b] Q ↔ Q (.b (decide (0 ≤ a) && BR (r.getD a.toNat 0#64) b)) := by
 refine Ab ?_
 rw [A8 C.c_z38.1 C.c_z38.2]
 by_cases h0 : 0 ≤ a
 ·obtain ⟨n, rfl⟩ := Int.eq_ofNat_of_zero_le h0
  by_cases h1 : n < r.length
  ·simp only [Y8, RX, go_sem, ↓reduceIte, h1, Ds h1, CV C]
  ·have : r.getD n 0#64 = 0#64 := by rw [List.getD_eq_getElem?_getD, List.getElem?_eq_none (by omega)]; rfl
   simp only [Y8, RX, go_sem, ↓reduceIte, h1, this]
   simp [BR]
 ·simp only [Y8, RX, go_sem, ↓reduceIte, h0]
theorem A4g (xs : List Int) (hl : xs.length < 9223372036854775807) : VP V A3k [lI xs] Q ↔ Q (vW (Dv xs)) := by
 refine Ab ?_
 rw [A8 C.c_z39.1 C.c_z39.2]
 simp only [A81, Q4, go_sem, ↓reduceIte]
 refine Ad (by decide) xs.length hl (I := fun k F h => h = [] ∧ A3.tmp F 0 = lI xs ∧ A3.tmp F 3 = vW (Dv (xs.take k))) ?_ ?_ ?_ 0 _ _ (Nat.zero_le _) ?_ ?_
 ·rintro k F h hk h1 ⟨rfl, h2, h3⟩
  simp only [Q4, go_sem, ↓reduceIte, h1, h2, h3]
 ·rintro k F h hk h1 ⟨rfl, h2, h3⟩
  simp only [Q4, go_sem, ↓reduceIte, h1, h2, h3, List.getElem?_eq_getElem hk, DD C]
  rw [List.take_succ_eq_append_getElem hk]
  simp only [Dv, List.foldl_append, List.foldl_cons, List.foldl_nil]
 ·rintro F h ⟨rfl, h2, h3⟩
  rw [List.take_length] at h3
  simp only [Q4, go_sem, ↓reduceIte, h3]
 all_goals simp only [go_sem, ↓reduceIte]
 all_goals rfl
theorem M8 (lo hi : Int) : VP V Up [.i .i64 lo, .i .i64 hi] Q ↔ Q (vW (D2 lo hi)) := by
 refine Ab ?_
 rw [A8 C.c_z161.1 C.c_z161.2]
 simp only [A0E, HX, go_sem, ↓reduceIte]
 refine Ad (by decide) 64 (by omega) (I := fun k F h => h = [] ∧ A3.tmp F 0 = .i .i64 lo ∧ A3.tmp F 1 = .i .i64 hi ∧ A3.tmp F 5 = vW (Bz fun i => decide (lo ≤ (i : Int) ∧ (i : Int) < hi) && decide (i < k))) ?_ ?_ ?_ 0 _ _ (Nat.zero_le _) ?_ ?_
 ·rintro k F h hk h1 ⟨rfl, h2, h3, h4⟩
  simp only [HX, go_sem, ↓reduceIte, h1, h2, h3, h4]
  exact decide_eq_decide.2 (by omega)
 ·rintro k F h hk h1 ⟨rfl, h2, h3, h4⟩
  by_cases c1 : lo ≤ (k : Int)
  ·by_cases c2 : (k : Int) < hi
   ·simp only [HX, go_sem, ↓reduceIte, h1, h2, h3, h4, c1, c2, DD C]
    rw [Mx _ _ hk]
    congr 1
    apply Bd
    intro j hj
    by_cases e : j = k
    ·subst e; simp [c1, c2]
    ·have : (j < k + 1) ↔ (j < k) := by omega
     simp [e, this]
   ·simp only [HX, go_sem, ↓reduceIte, h1, h2, h3, h4, c1, c2]
    congr 1
    apply Bd
    intro j hj
    by_cases e : j = k
    ·subst e; simp [c2]
    ·have : (j < k + 1) ↔ (j < k) := by omega
     simp [this]
  ·simp only [HX, go_sem, ↓reduceIte, h1, h2, h3, h4, c1]
   congr 1
   apply Bd
   intro j hj
   by_cases e : j = k
   ·subst e; simp [c1]
   ·have : (j < k + 1) ↔ (j < k) := by omega
    simp [this]
 ·rintro F h ⟨rfl, h2, h3, h4⟩
  simp only [HX, go_sem, ↓reduceIte, h4]
  congr 1
  apply Bd
  intro j hj
  simp [hj]
 all_goals simp only [go_sem, ↓reduceIte]
 all_goals first | rfl | (rw [← Ge]; congr 1; apply Bd; intro j hj; simp)
omit C in
theorem Ni (s t : BitVec 64) : decide (s ||| t = t) = decide (s &&& ~~~t = 0#64) := by
 apply decide_eq_decide.2
 rw [A6a]
 constructor
 ·intro h
  apply BV
  intro j hj
  cases hs : s.getLsbD j with
  | false => simp [hs]
  | true => simp [hs, h j hs]
 ·intro h j hj
  have := congrArg (fun w : BitVec 64 => w.getLsbD j) h
  have hlt : j < 64 := BitVec.lt_of_getLsbD hj
  simp [hj, hlt] at this
  exact this
theorem Qs (r : BY) (hl : r.length < 9223372036854775807) : VP V Ta [lW r] Q ↔ Q (.b (Dn r)) := by
 refine Ab ?_
 rw [A8 C.c_z111.1 C.c_z111.2]
 by_cases hl : r.length ≤ 64
 ·have hl' : ¬ (64 : Int) < r.length := by omega
  simp only [Vf, Jr, go_sem, ↓reduceIte, hl']
  refine Ad (by decide) r.length (by omega) (I := fun k F h => h = [] ∧ A3.tmp F 0 = lW r ∧ ∀ (j : Nat) (hj : j < r.length), j < k → r[j] &&& ~~~(D2 0 r.length) = 0#64) ?_ ?_ ?_ 0 _ _ (Nat.zero_le _) ?_ ?_
  ·rintro k F h hk h1 ⟨rfl, h2, h3⟩
   simp only [Jr, go_sem, ↓reduceIte, h1, h2]
   exact h3
  ·rintro k F h hk h1 ⟨rfl, h2, h3⟩
   by_cases e : r[k] &&& ~~~(D2 0 r.length) = 0#64
   ·simp only [Jr, go_sem, ↓reduceIte, h1, h2, List.getElem?_eq_getElem hk, M8 C, Dt C, Ni, e]
    intro j hj hjk
    by_cases e2 : j = k
    ·subst e2; exact e
    ·exact h3 j hj (by omega)
   ·simp only [Jr, go_sem, ↓reduceIte, h1, h2, List.getElem?_eq_getElem hk, M8 C, Dt C, Ni, e]
    have : (r.all fun x => decide (x &&& ~~~(D2 0 r.length) = 0#64)) = false := by
     rw [List.all_eq_false]
     exact ⟨_, List.getElem_mem hk, by simpa using e⟩
    simp [Dn, this]
  ·rintro F h ⟨rfl, h2, h3⟩
   simp only [Jr, go_sem, ↓reduceIte]
   have : (r.all fun x => decide (x &&& ~~~(D2 0 r.length) = 0#64)) = true := by
    rw [List.all_eq_true]
    intro x hx
    obtain ⟨j, hj, e⟩ := List.mem_iff_getElem.1 hx
    rw [← e]; simpa using h3 j hj hj
   simp [Dn, hl, this]
  all_goals simp only [go_sem, ↓reduceIte]
  all_goals first | rfl | (intro j hj hjk; omega)
 ·have hl' : (64 : Int) < r.length := by omega
  simp only [Vf, Jr, go_sem, ↓reduceIte, hl']
  simp [Dn, hl]
theorem Xj (s : BitVec 64) : VP V UK [vW s] Q ↔ Q (lI (Az s)) := by
 refine Ab ?_
 rw [A8 C.c_z125.1 C.c_z125.2]
 simp only [ZF, Kd, go_sem, ↓reduceIte]
 refine Ad (by decide) 64 (by omega) (I := fun k F h => A3.tmp F 0 = vW s ∧ ∃ l, l = (((List.range k).filter fun i => s.getLsbD i).map fun (i : Nat) => (i : Int)) ∧ A3.tmp F 3 = .sl 0 l.length 0 l.length ∧ h = [some (AP AU 1 (l.map eI))]) ?_ ?_ ?_ 0 _ _ (Nat.zero_le _) ?_ ?_
 ·rintro k F h hk h1 ⟨h2, l, hl, h3, rfl⟩
  simp only [Kd, go_sem, ↓reduceIte, h1, h2, h3]
  refine ⟨decide_eq_decide.2 (by omega), l, hl, rfl, rfl⟩
 ·rintro k F h hk h1 ⟨h2, l, hl, h3, rfl⟩
  have hll : l.length ≤ k := by
   rw [hl, List.length_map]
   exact Nat.le_trans (List.length_filter_le _ _) (by simp)
  have hb8 : (l.length + 1) * 8 ≤ A6 := by unfold A6; omega
  cases hb : s.getLsbD k with
  | true =>
   simp only [Kd, go_sem, ↓reduceIte, h1, h2, h3, CV C, AT, hb, hb8]
   refine ⟨_, ?_, by rw [List.length_append]; rfl, rfl⟩
   rw [hl, List.filter_append, List.map_append]
   simp [hb]
  | false =>
   simp only [Kd, go_sem, ↓reduceIte, h1, h2, h3, CV C, AT, hb]
   refine ⟨l, ?_, rfl, rfl⟩
   rw [hl, List.filter_append]
   simp [hb]
 ·rintro F h ⟨h2, l, hl, h3, rfl⟩
  simp only [Kd, go_sem, ↓reduceIte, h3, hl]
  rfl
 all_goals simp only [go_sem, ↓reduceIte]
 all_goals first | rfl | exact ⟨[], rfl, rfl, rfl⟩
end
end Go.AM

namespace Go.AM
open Go Go.Proofs
section
variable {V : At} (C : AS V) {Q : VV → Prop}
include C
theorem X9 (a : BY) (hl0 : a.length < 9223372036854775807) : VP V A3t [lW a] Q ↔ Q (lW (Et a)) := by
 refine Ab ?_
 rw [A8 C.c_z79.1 C.c_z79.2]
 cases hm : Dn a with
 | false => simp only [A1V, Gm, go_sem, ↓reduceIte, Qs C _ hl0, hm, Et, Bool.false_eq_true]
 | true =>
  have hl := KE hm
  have h0 : a.length * 8 ≤ A6 := by unfold A6; omega
  simp only [A1V, Gm, go_sem, ↓reduceIte, Qs C _ hl0, hm, h0, Int.le_refl]
  refine Ad (by decide) a.length (by omega) (I := fun k F h => A3.tmp F 0 = lW a ∧ A3.tmp F 3 = .sl 0 0 0 a.length ∧ h = [some ⟨Bj, 1, 0, false, (CA a.length k (fun i => EX a (a.getD i 0#64)) 0#64).map eW⟩]) ?_ ?_ ?_ 0 _ _ (Nat.zero_le _) ?_ ?_
  ·rintro k F h hk h1 ⟨h2, h3, rfl⟩
   simp only [GJ, Gm, go_sem, ↓reduceIte, h1, h2, h3]
  ·rintro k F h hk h1 ⟨h2, h3, rfl⟩
   simp only [GJ, Gm, go_sem, ↓reduceIte, h1, h2, h3, Ds hk]
   unfold VL
   rw [A0]
   refine AG (M := BitVec 64 × Bool) (I := fun m G h2 => h2 = [some ⟨Bj, 1, 0, false, (CA a.length k (fun i => EX a (a.getD i 0#64)) 0#64).map eW⟩] ∧ A3.tmp G 0 = lW a ∧ A3.tmp G 3 = .sl 0 0 0 a.length ∧ A3.tmp G 4 = .i .i64 k ∧ A3.tmp G 5 = vW m.1 ∧ A3.tmp G 6 = .b m.2 ∧ Yj (a.getD k 0#64) m.1 ∧ (∀ u, Yj (a.getD k 0#64) u → M4 a u → Yj m.1 u) ∧ (m.2 = false → M4 a m.1)) (μ := fun m => 2 * (18446744073709551616 - m.1.toNat) + (if m.2 then 1 else 0)) ?_ (a.getD k 0#64, true) _ _ ⟨rfl, ?_, ?_, ?_, ?_, ?_, fun j hj => hj, fun u hu _ => hu, fun h => by cases h⟩
   ·rintro ⟨t, b⟩ G h2' ⟨rfl, j1, j2, j3, j4, j5, j6, j7, j8⟩
    simp only at j4 j5 j6 j7 j8 ⊢
    cases b with
    | false =>
     have hc : EX a (a.getD k 0#64) = t := (Rf hl _).uniq ⟨j6, j8 rfl, j7⟩
     have hu := Sn (n := a.length) (k := k) (f := fun i => EX a (a.getD i 0#64)) (z := 0#64)
     rw [hc] at hu
     simp only [GJ, Gm, go_sem, ↓reduceIte, j1, j2, j3, j4, j5, hk, HS hk, hu]
    | true =>
     simp only [GJ, Gm, go_sem, ↓reduceIte, j1, j2, j3, j4, j5, A0]
     refine Ad (by decide) a.length (by omega) (I := fun y G h3 => h3 = [some ⟨Bj, 1, 0, false, (CA a.length k (fun i => EX a (a.getD i 0#64)) 0#64).map eW⟩] ∧ A3.tmp G 0 = lW a ∧ A3.tmp G 3 = .sl 0 0 0 a.length ∧ A3.tmp G 4 = .i .i64 k ∧ ∃ t' b', A3.tmp G 5 = vW t' ∧ A3.tmp G 6 = .b b' ∧ Yj (a.getD k 0#64) t' ∧ (∀ u, Yj (a.getD k 0#64) u → M4 a u → Yj t' u) ∧ (b' = true → t.toNat < t'.toNat) ∧ (b' = false → t' = t ∧ ∀ y', y' < y → t.getLsbD y' = true → Yj (a.getD y' 0#64) t)) ?_ ?_ ?_ 0 _ _ (Nat.zero_le _) ?_ ?_
     ·rintro y E h4 hy p1 ⟨rfl, p2, p3, p4, t', b', p5, p6, p7⟩
      simp only [GJ, Gm, go_sem, ↓reduceIte, p1, p2, p3, p4, p5, p6]
      exact ⟨t', rfl, p7⟩
     ·rintro y E h4 hy p1 ⟨rfl, p2, p3, p4, t', b', p5, p6, p7, p8, p9, p10⟩
      cases hb : t'.getLsbD y with
      | false =>
       simp only [GJ, Gm, go_sem, ↓reduceIte, p1, p2, p3, p4, p5, p6, CV C, AT, hb]
       refine ⟨t', rfl, p7, p8, p9, fun hb' => ?_⟩
       obtain ⟨e1, e2⟩ := p10 hb'
       refine ⟨e1, fun y' hy' hty => ?_⟩
       by_cases e : y' = y
       ·subst e; rw [e1] at hb; rw [hb] at hty; cases hty
       ·exact e2 y' (by omega) hty
      | true =>
       by_cases hs : a.getD y 0#64 ||| t' = t'
       ·simp only [GJ, Gm, go_sem, ↓reduceIte, p1, p2, p3, p4, p5, p6, CV C, AT, hb, Ds hy, Dt C, hs]
        refine ⟨t', rfl, p7, p8, p9, fun hb' => ?_⟩
        obtain ⟨e1, e2⟩ := p10 hb'
        refine ⟨e1, fun y' hy' hty => ?_⟩
        by_cases e : y' = y
        ·subst e
         rw [← e1]
         exact (A6a _ _).1 hs
        ·exact e2 y' (by omega) hty
       ·simp only [GJ, Gm, go_sem, ↓reduceIte, p1, p2, p3, p4, p5, p6, CV C, AT, hb, Ds hy, Dt C, hs]
        have hgr : t'.toNat < (t' ||| a.getD y 0#64).toNat := Kk (by rw [BitVec.or_comm]; exact hs)
        refine ⟨t' ||| a.getD y 0#64, rfl, fun j hj => by rw [BitVec.getLsbD_or, p7 j hj, Bool.true_or], fun u hu hc j hj => ?_, ?_⟩
        ·rw [BitVec.getLsbD_or, Bool.or_eq_true] at hj
         rcases hj with hj | hj
         ·exact p8 u hu hc j hj
         ·exact hc y hy (p8 u hu hc y hb) j hj
        ·cases b' with
         | true => have := p9 rfl; omega
         | false => rw [(p10 rfl).1] at hgr ⊢; exact hgr
     ·rintro E h4 ⟨rfl, p2, p3, p4, t', b', p5, p6, p7, p8, p9, p10⟩
      simp only [GJ, Gm, go_sem, ↓reduceIte, p2, p3, p4, p5, p6]
      refine ⟨(t', b'), ?_, rfl, rfl, p7, p8, fun hb' => ?_⟩
      ·cases b' with
       | true => have := p9 rfl; have := t'.isLt; simp only [if_true]; omega
       | false => rw [(p10 rfl).1]; simp
      ·obtain ⟨e1, e2⟩ := p10 hb'
       rw [e1]
       exact fun y hy hty => e2 y hy hty
     all_goals simp only [go_sem, ↓reduceIte, j1, j2, j3, j4, j5]
     all_goals first | rfl | exact ⟨t, rfl, j6, j7, rfl, fun y' hy' => by omega⟩
   all_goals simp only [go_sem, ↓reduceIte, h1, h2, h3]
  ·rintro F h ⟨h2, h3, rfl⟩
   simp only [GJ, Gm, go_sem, ↓reduceIte, h3, Gz, Et, hm]
  all_goals simp only [go_sem, ↓reduceIte]
  all_goals first | rfl | rw [Eh]
theorem RA (xs : List Int) (hl : xs.length < 9223372036854775807) (n : Int) : VP V WN [lI xs, .i .i64 n] Q ↔ Q (.i .i64 (GN (fun y => decide (n = y)) xs)) := by
 refine Ab ?_
 rw [A8 C.c_z41.1 C.c_z41.2]
 simp only [A64, NF, go_sem, ↓reduceIte]
 refine Ad (by decide) xs.length hl (I := fun k F h => h = [] ∧ A3.tmp F 0 = lI xs ∧ A3.tmp F 1 = .i .i64 n ∧ ∀ (j : Nat) (hj : j < xs.length), j < k → ¬ n = xs[j]) ?_ ?_ ?_ 0 _ _ (Nat.zero_le _) ?_ ?_
 ·rintro k F h hk h1 ⟨rfl, h2, h3, h4⟩
  simp only [NF, go_sem, ↓reduceIte, h1, h2, h3]
  exact h4
 ·rintro k F h hk h1 ⟨rfl, h2, h3, h4⟩
  by_cases e : xs[k] = n
  ·simp only [NF, go_sem, ↓reduceIte, h1, h2, h3, List.getElem?_eq_getElem hk, e]
   rw [DJ hk (by simp [e]) fun j hj => by simpa using h4 j _ hj]
  ·simp only [NF, go_sem, ↓reduceIte, h1, h2, h3, List.getElem?_eq_getElem hk, e]
   intro j hj hjk
   by_cases e2 : j = k
   ·subst e2; exact fun e3 => e e3.symm
   ·exact h4 j hj (by omega)
 ·rintro F h ⟨rfl, h2, h3, h4⟩
  simp only [NF, go_sem, ↓reduceIte]
  rw [Df fun x hx => by obtain ⟨j, hj, e⟩ := List.mem_iff_getElem.1 hx; rw [← e]; simpa using h4 j hj hj]
 all_goals simp only [go_sem, ↓reduceIte]
 all_goals first | rfl | (intro j hj hjk; omega)
theorem Al (t : A5) (n : Int) : VP V A1c [vT t, .i .i64 n] Q ↔ Q (.b (C3 t n)) := by
 refine Ab ?_
 rw [A8 C.c_z85.1 C.c_z85.2]
 cases h0 : decide (0 ≤ n) <;> simp only [A7m, A33, go_sem, ↓reduceIte, h0, C3]
theorem Rh (n : Ay) : VP V A3l [vN n] Q ↔ Q (.b (CE n)) := by
 refine Ab ?_
 rw [A8 C.c_z87.1 C.c_z87.2]
 cases c0 : decide (0 ≤ n.thread) <;> cases c1 : decide (n.kind = 3) <;> cases c2 : decide (n.mode = 0) <;>
  simp only [A7J, A2k, go_sem, ↓reduceIte, c0, c1, c2, CE]
theorem K8 (n : Ay) : VP V Tp [vN n] Q ↔ Q (.b (J3 n)) := by
 refine Ab ?_
 rw [A8 C.c_z127.1 C.c_z127.2]
 cases c0 : decide (n.kind = 2) <;> cases c1 : decide (n.kind = 4) <;> cases c2 : decide (n.mode = 1) <;> cases c3 : decide (n.mode = 3) <;>
  simp only [A0l, W3, go_sem, ↓reduceIte, c0, c1, c2, c3, J3]
theorem EB (n : Ay) : VP V TQ [vN n] Q ↔ Q (.b (E8 n)) := by
 refine Ab ?_
 rw [A8 C.c_z164.1 C.c_z164.2]
 cases c0 : decide (n.kind = 3) <;> cases c1 : decide (0 ≤ n.thread) <;> cases c4 : decide (n.kind = 4) <;> cases c2 : decide (n.mode = 2) <;> cases c3 : decide (n.mode = 3) <;>
  simp only [A0p, Tq, go_sem, ↓reduceIte, c0, c1, c2, c3, c4, E8]
theorem EO (t : A5) (hu : Kc t) (a : Int) {b : Nat} (hb : b < t.nodes.length) : VP V Tv [vT t, .i .i64 a, .i .i64 b] Q ↔ Q (.b (B7 t a b)) := by
 refine Ab ?_
 rw [A8 C.c_z109.1 C.c_z109.2]
 simp only [A0e, Lo, go_sem, ↓reduceIte, A4 hb]
 unfold VL
 rw [A0]
 refine AG (M := Int) (I := fun x F h => h = [] ∧ A3.tmp F 3 = .fp (eT t) 0 ∧ A3.tmp F 1 = .i .i64 a ∧ A3.tmp F 7 = .i .i64 x ∧ x < t.nodes.length ∧ KX t a t.nodes.length x = B7 t a b) (μ := fun x => (x + 1).toNat) ?_ (t.at b).up _ _ ⟨rfl, ?_, ?_, ?_, ?_, rfl⟩
 ·rintro x F h ⟨rfl, j1, j2, j3, j4, j5⟩
  have hfuel : ∀ y : Int, y < t.nodes.length → KX t a (t.nodes.length + 1) y = KX t a t.nodes.length y := fun y hy => Si hu a _ y hy hy
  by_cases c0 : 0 ≤ x
  ·obtain ⟨m, rfl⟩ := Int.eq_ofNat_of_zero_le c0
   have hm : m < t.nodes.length := by omega
   have hstep := hfuel (m : Int) j4
   rw [KX, if_neg (by omega)] at hstep
   by_cases c1 : (m : Int) = a
   ·rw [if_pos c1] at hstep
    subst c1
    simp only [Pe, Lo, go_sem, ↓reduceIte, j1, j2, j3, A0]
    rw [← j5, ← hstep]
   ·rw [if_neg c1, Int.toNat_natCast] at hstep
    have hup := hu m hm
    simp only [Pe, Lo, go_sem, ↓reduceIte, j1, j2, j3, c1, A0, A4 hm]
    exact ⟨_, by omega, rfl, by omega, by rw [hstep, j5]⟩
  ·have hstep := hfuel x j4
   rw [KX, if_pos (by omega)] at hstep
   simp only [Pe, Lo, go_sem, ↓reduceIte, j1, j2, j3, c0]
   rw [← j5, ← hstep]
 ·simp only [go_sem, ↓reduceIte]
 ·simp only [go_sem, ↓reduceIte]
 ·simp only [go_sem, ↓reduceIte]
 ·have := hu b hb; omega
theorem Gw (t : A5) (hu : Kc t) (a b : Int) : VP V A1t [vT t, .i .i64 a, .i .i64 b] Q ↔ Q (.b (Aw t a b)) := by
 refine Ab ?_
 rw [A8 C.c_z63.1 C.c_z63.2]
 cases ha : C3 t a with
 | false => simp only [RP, Q1, go_sem, ↓reduceIte, Al C, ha, Aw]
 | true =>
  cases hb : C3 t b with
  | false => simp only [RP, Q1, go_sem, ↓reduceIte, Al C, ha, hb, Aw]
  | true =>
   obtain ⟨m, rfl, hm⟩ := Aa ha
   obtain ⟨n, rfl, hn⟩ := Aa hb
   cases c : decide ((t.at m).thread < 0) with
   | true =>
    have c' := of_decide_eq_true c
    simp only [RP, Q1, go_sem, ↓reduceIte, Al C, ha, hb, Aw, A4 hm, A4 hn, c, if_pos c']
   | false =>
    have c' := of_decide_eq_false c
    simp only [RP, Q1, go_sem, ↓reduceIte, Al C, ha, hb, Aw, A4 hm, A4 hn, c, if_neg c', EO C t hu _ hn]
set_option maxHeartbeats 1000000 in
theorem Pb (t : A5) (hu : Kc t) (a b : Int) : VP V A2g [vT t, .i .i64 a, .i .i64 b] Q ↔ Q (.b (Bw t a b)) := by
 refine Ab ?_
 rw [A8 C.c_z88.1 C.c_z88.2]
 cases ha : C3 t a with
 | false => simp only [SQ, QK, go_sem, ↓reduceIte, Al C, ha, Bw]
 | true =>
  cases hb : C3 t b with
  | false => simp only [SQ, QK, go_sem, ↓reduceIte, Al C, ha, hb, Bw]
  | true =>
   obtain ⟨m, rfl, hm⟩ := Aa ha
   obtain ⟨n, rfl, hn⟩ := Aa hb
   by_cases e : (m : Int) = n
   ·simp only [SQ, QK, go_sem, ↓reduceIte, Al C, ha, hb, Bw, e]
   ·cases c0 : decide (0 ≤ (t.at m).thread) <;> cases c1 : decide ((t.at m).thread = (t.at n).thread) <;> cases c2 : B7 t (m : Int) n <;>
     simp only [SQ, QK, go_sem, ↓reduceIte, Al C, ha, hb, Bw, e, A4 hm, A4 hn, c0, c1, c2, EO C t hu _ hn, EO C t hu _ hm]
end
end Go.AM

namespace Go.AM
open Go Go.Proofs
theorem Ee {k : Nat} (h0 : 0 < k) (h : k < 9223372036854775807) : IntKind.i64.wrap ((k : Int) - 1) = ((k - 1 : Nat) : Int) := by rw [AE (by omega) (by omega)]; omega
section
variable {V : At} (C : AS V) {Q : VV → Prop}
include C
theorem A9 (xs : List Int) (hl : xs.length < 9223372036854775807) (n : Int) : VP V WN [lI xs, .i .i64 n] Q ↔ Q (.i .i64 (LM xs n)) := RA C xs hl n
theorem A12 (s : Ac) (hs : Ja s) (n : Int) : VP V A35 [JO s, .i .i64 n] Q ↔ Q (.i .i64 (jfF s n)) := by
 refine Ab ?_
 rw [A8 C.c_z15.1 C.c_z15.2]
 have hl := hs.has
 unfold jfF
 cases h : Be s.has n with
 | false =>
  simp only [WE, Ss, go_sem, ↓reduceIte, A9 C s.has (by omega), Wg h, Int.reduceNeg, Int.reduceLT]
 | true =>
  obtain ⟨k, e, hk, _⟩ := Ey h
  have h0 : ¬ (k : Int) < 0 := by omega
  by_cases h1 : s.jf.length ≤ k
  ·simp only [WE, Ss, go_sem, ↓reduceIte, A9 C s.has (by omega), e, h0, h1]
  ·simp only [WE, Ss, go_sem, ↓reduceIte, A9 C s.has (by omega), e, h0, h1, Aq (show k < s.jf.length by omega)]
theorem Jo (a b : Ay) (pa pb : Int) : VP V A8Z [vN a, vN b, .i .i64 pa, .i .i64 pb] Q ↔ Q (.b (E4 a b pa pb)) := by
 refine Ab ?_
 rw [A8 C.c_z8.1 C.c_z8.2]
 cases c0 : decide (a.kind = 2) <;> cases c1 : decide (a.kind = 3) <;> cases c2 : decide (b.kind = 2) <;> cases c3 : decide (b.kind = 3) <;> cases c4 : decide (a.loc = b.loc) <;>
  simp only [Abg, A8S, go_sem, ↓reduceIte, c0, c1, c2, c3, c4, E4] <;> simp_all
theorem Lh (s : Ac) (hs : Ja s) (loc w : Int) : VP V A2Z [JO s, .i .i64 loc, .i .i64 w] Q ↔ Q (.i .i64 (GA s loc w)) := by
 refine Ab ?_
 rw [A8 C.c_z17.1 C.c_z17.2]
 unfold GA
 by_cases h0 : loc < 0
 ·simp only [Wn, L9, go_sem, ↓reduceIte, h0]
 ·obtain ⟨k, rfl⟩ := Int.eq_ofNat_of_zero_le (by omega : 0 ≤ loc)
  by_cases h1 : s.mo.length ≤ k
  ·simp only [Wn, L9, go_sem, ↓reduceIte, h0, h1]
  ·have hk : k < s.mo.length := by omega
   have hl := hs.mi' k
   have hc := hs.mc' k
   simp only [Wn, L9, go_sem, ↓reduceIte, h0, h1]
   generalize hm : s.mo.getD k [] = m at *
   refine Ad (by decide) m.length (by omega) (I := fun j F h => h = [] ∧ A3.tmp F 1 = .i .i64 k ∧ A3.tmp F 2 = .i .i64 w ∧ A3.tmp F 3 = .fp (Qa s) 0 ∧ ∀ (i : Nat) (hi : i < m.length), i < j → Be m[i] w = false) ?_ ?_ ?_ 0 _ _ (Nat.zero_le _) ?_ ?_
   ·rintro j F h hj p1 ⟨rfl, p2, p3, p4, p5⟩
    simp only [L9, go_sem, ↓reduceIte, p1, p2, p3, p4, Cc hk, hm]
    exact p5
   ·rintro j F h hj p1 ⟨rfl, p2, p3, p4, p5⟩
    have hcj := hc j
    rw [List.getD_eq_getElem?_getD, List.getElem?_eq_getElem hj, Option.getD_some] at hcj
    cases e : Be m[j] w with
    | true =>
     simp only [L9, go_sem, ↓reduceIte, p1, p2, p3, p4, Cc hk, hm, List.getElem?_eq_getElem hj, A9 C m[j] (by omega), DV, e]
     rw [DJ hj e fun i hi => p5 i (by omega) hi]
    | false =>
     simp only [L9, go_sem, ↓reduceIte, p1, p2, p3, p4, Cc hk, hm, List.getElem?_eq_getElem hj, A9 C m[j] (by omega), DV, e]
     intro i hi hij
     by_cases e2 : i = j
     ·subst e2; exact e
     ·exact p5 i hi (by omega)
   ·rintro F h ⟨rfl, p2, p3, p4, p5⟩
    simp only [L9, go_sem, ↓reduceIte]
    rw [Df fun x hx => by obtain ⟨j, hj, e⟩ := List.mem_iff_getElem.1 hx; rw [← e]; exact p5 j hj hj]
   all_goals simp only [go_sem, ↓reduceIte]
   all_goals first | rfl | (intro j hj hjk; omega)
theorem Rk (t : A5) (ht : t.nodes.length ≤ 1000) : VP V A2v [vT t] Q ↔ Q (vW (LU t)) := by
 refine Ab ?_
 rw [A8 C.c_z86.1 C.c_z86.2]
 simp only [A6e, ND, go_sem, ↓reduceIte]
 refine Ad (by decide) t.nodes.length (by omega) (I := fun k F h => h = [] ∧ A3.tmp F 1 = .fp (eT t) 0 ∧ A3.tmp F 3 = vW (Bz fun i => decide (i < k) && decide ((t.at i).up < 0))) ?_ ?_ ?_ 0 _ _ (Nat.zero_le _) ?_ ?_
 ·rintro k F h hk p1 ⟨rfl, p2, p3⟩
  simp only [ND, go_sem, ↓reduceIte, p1, p2, p3]
 ·rintro k F h hk p1 ⟨rfl, p2, p3⟩
  by_cases e : (t.at k).up < 0
  ·simp only [ND, go_sem, ↓reduceIte, p1, p2, p3, A4 hk, e, DD C]
   by_cases h64 : k < 64
   ·rw [Mx _ _ h64]
    congr 1
    apply Bd
    intro j hj
    by_cases e2 : j = k
    ·subst e2; simp [e]
    ·have : (j < k + 1) ↔ (j < k) := by omega
     simp [this, e2]
   ·have : Cy (k : Int) = 0#64 := by unfold Cy; rw [if_neg (by omega)]
    rw [this, BitVec.or_zero]
    congr 1
    apply Bd
    intro j hj
    have : (j < k + 1) ↔ (j < k) := by omega
    simp [this]
  ·simp only [ND, go_sem, ↓reduceIte, p1, p2, p3, A4 hk, e]
   congr 1
   apply Bd
   intro j hj
   by_cases e2 : j = k
   ·subst e2; simp [e]
   ·have : (j < k + 1) ↔ (j < k) := by omega
    simp [this]
 ·rintro F h ⟨rfl, p2, p3⟩
  simp only [ND, go_sem, ↓reduceIte, p3, LU]
 all_goals simp only [go_sem, ↓reduceIte]
 all_goals first | rfl | (rw [← Ge]; congr 1; apply Bd; intro j hj; simp)
set_option maxHeartbeats 1000000 in
theorem Rm (t : A5) (ht : t.nodes.length ≤ 1000) (l : List Int) (hl : l.length ≤ 1000) : VP V A1C [vT t, lI l] Q ↔ Q (.b (C8 t l)) := by
 refine Ab ?_
 rw [A8 C.c_z40.1 C.c_z40.2]
 simp only [A6p, JF, go_sem, ↓reduceIte]
 refine Ad (by decide) l.length (by omega) (I := fun k F h => h = [] ∧ A3.tmp F 1 = lI l ∧ A3.tmp F 2 = .fp (eT t) 0 ∧ ∀ j, j < k → Ca t l j = true) ?_ ?_ ?_ 0 _ _ (Nat.zero_le _) ?_ ?_
 ·rintro k F h hk p1 ⟨rfl, p2, p3, p4⟩
  simp only [JF, go_sem, ↓reduceIte, p1, p2, p3]
  exact p4
 ·rintro k F h hk p1 ⟨rfl, p2, p3, p4⟩
  have bad : Ca t l k = false → false = C8 t l := fun h => by rw [C8, AZ hk h]; rfl
  have good : Ca t l k = true → ∀ j, j < k + 1 → Ca t l j = true := fun h j hj => by
   by_cases e : j = k
   ·rw [e]; exact h
   ·exact p4 j (by omega)
  cases c0 : C3 t (l.getD k 0) with
  | false =>
   simp only [JF, go_sem, ↓reduceIte, p1, p2, p3, Aq hk, Al C, c0]
   exact bad (by rw [Ca, c0]; rfl)
  | true =>
   obtain ⟨n, hn, hn'⟩ := Aa c0
   have hup : Ca t l k = (CL l k && (decide ((t.at n).up < 0) || Be l (t.at n).up)) := by
    unfold Ca
    rw [c0, hn, Int.toNat_natCast, Bool.true_and]
   rw [hn] at c0
   by_cases z : k = 0
   ·subst z
    have hr : CL l 0 = true := by simp [CL]
    rw [hr, Bool.true_and] at hup
    have z0 : ¬ (0 : Int) < ((0 : Nat) : Int) := by omega
    by_cases u0 : 0 ≤ (t.at n).up
    ·have u1 : ¬ (t.at n).up < 0 := by omega
     rw [decide_eq_false u1, Bool.false_or] at hup
     cases u2 : Be l (t.at n).up <;> rw [u2] at hup <;>
      simp only [JF, go_sem, ↓reduceIte, p1, p2, p3, Aq hk, Al C, c0, z0, hn, A4 hn', u0, A9 C l (by omega), BT, u2]
     ·exact bad hup
     ·exact good hup
    ·have u1 : (t.at n).up < 0 := by omega
     rw [decide_eq_true u1, Bool.true_or] at hup
     simp only [JF, go_sem, ↓reduceIte, p1, p2, p3, Aq hk, Al C, c0, z0, hn, A4 hn', u0]
     exact good hup
   ·have z0 : (0 : Int) < (k : Int) := by omega
    have zw := Ee (show 0 < k by omega) (by omega)
    have hk1 : k - 1 < l.length := by omega
    have hr : CL l k = !decide ((n : Int) ≤ l.getD (k - 1) 0) := by
     unfold CL
     rw [decide_eq_false z, Bool.false_or, hn]
     by_cases c : (n : Int) ≤ l.getD (k - 1) 0
     ·rw [decide_eq_true c, decide_eq_false (by omega)]; rfl
     ·rw [decide_eq_false c, decide_eq_true (by omega)]; rfl
    cases c1 : decide ((n : Int) ≤ l.getD (k - 1) 0) with
    | true =>
     rw [c1] at hr
     rw [hr] at hup
     simp only [JF, go_sem, ↓reduceIte, p1, p2, p3, Aq hk, Al C, c0, z0, zw, Aq hk1, hn, c1]
     exact bad hup
    | false =>
     rw [c1] at hr
     rw [hr] at hup
     simp only [Bool.not_false, Bool.true_and] at hup
     by_cases u0 : 0 ≤ (t.at n).up
     ·have u1 : ¬ (t.at n).up < 0 := by omega
      rw [decide_eq_false u1, Bool.false_or] at hup
      cases u2 : Be l (t.at n).up <;> rw [u2] at hup <;>
       simp only [JF, go_sem, ↓reduceIte, p1, p2, p3, Aq hk, Al C, c0, z0, zw, Aq hk1, hn, c1, A4 hn', u0, A9 C l (by omega), BT, u2]
      ·exact bad hup
      ·exact good hup
     ·have u1 : (t.at n).up < 0 := by omega
      rw [decide_eq_true u1, Bool.true_or] at hup
      simp only [JF, go_sem, ↓reduceIte, p1, p2, p3, Aq hk, Al C, c0, z0, zw, Aq hk1, hn, c1, A4 hn', u0]
      exact good hup
 ·rintro F h ⟨rfl, p2, p3, p4⟩
  simp only [JF, go_sem, ↓reduceIte, p2, p3, Rk C t ht, A4g C l (by omega), Dt C]
  rw [C8, AY p4]; rfl
 all_goals simp only [go_sem, ↓reduceIte]
 all_goals first | rfl | (intro j hj; omega)
set_option maxHeartbeats 4000000 in
theorem Rs (t : A5) (hu : Kc t) (l has : List Int) (hl : l.length ≤ 1000) (hh : has.length ≤ 1000) (hv : ∀ n ∈ has, C3 t n = true) (loc : Int) : VP V A1h [vT t, lI l, lI has, .i .i64 loc] Q ↔ Q (.b (Dp t l has loc)) := by
  refine Ab ?_
  rw [A8 C.c_z42.1 C.c_z42.2]
  by_cases z : l.length = 0
  · have z' : (l.length : Int) = 0 := by omega
    simp only [A2T, EJ, go_sem, ↓reduceIte, z']
    simp [Dp, z]
  have z' : ¬ (l.length : Int) = 0 := by omega
  simp only [A2T, EJ, go_sem, ↓reduceIte, z']
  refine Ad (by decide) l.length (by omega) (I := fun k F h => h = [] ∧ A3.tmp F 1 = lI l ∧ A3.tmp F 2 = lI has ∧ A3.tmp F 3 = .i .i64 loc ∧ A3.tmp F 4 = .fp (eT t) 0 ∧ ∀ j, j < k → BD t l has loc j = true) ?_ ?_ ?_ 0 _ _ (Nat.zero_le _) ?_ ?_
  · rintro k F h hk p1 ⟨rfl, p2, p3, p4, p5, p6⟩
    simp only [EJ, go_sem, ↓reduceIte, p1, p2, p3, p4, p5]
    exact p6
  · rintro k F h hk p1 ⟨rfl, p2, p3, p4, p5, p6⟩
    have bad : BD t l has loc k = false → false = Dp t l has loc := fun h => by rw [Dp, AZ hk h]; simp
    have good : BD t l has loc k = true → ∀ j, j < k + 1 → BD t l has loc j = true := fun h j hj => by
      by_cases e : j = k
      · rw [e]; exact h
      · exact p6 j (by omega)
    cases c0 : Be has (l.getD k 0) with
    | false =>
      simp only [EJ, go_sem, ↓reduceIte, p1, p2, p3, p4, p5, Aq hk, A9 C has (by omega), BT, c0]
      exact bad (by rw [BD, c0]; rfl)
    | true =>
      obtain ⟨n, hn, hn'⟩ := Aa (hv _ (Ai.1 c0))
      have hcls : BD t l has loc k = (CL l k && (decide ((t.at n).kind = 3) && decide ((t.at n).loc = loc)) && decide (0 ≤ (t.at n).thread) && (List.range k).all fun j => AJ t (l.getD k 0) (l.getD j 0)) := by
        unfold BD HG
        rw [c0, hn, Int.toNat_natCast, Bool.true_and]
      have hris : CL l k = (decide (k = 0) || decide (l.getD (k - 1) 0 < (n : Int))) := by rw [CL, hn]
      rw [hn] at c0
      have tail : ∀ (hr : CL l k = true) (hx1 : decide ((t.at n).kind = 3) = true) (hx2 : decide ((t.at n).loc = loc) = true) (hx3 : decide ((t.at n).thread < 0) = false) (G : A3) (Q' : Ex → A3 → VH → Prop)
          (g1 : A3.tmp G 1 = lI l) (g2 : A3.tmp G 2 = lI has) (g3 : A3.tmp G 3 = .i .i64 loc) (g4 : A3.tmp G 4 = .fp (eT t) 0) (g9 : A3.tmp G 9 = .i .i64 k) (g10 : A3.tmp G 10 = .p 0 0 0 0) (g11 : A3.tmp G 11 = .i .i64 0)
          (q1 : ∀ G' h', A3.tmp G' 1 = lI l → A3.tmp G' 2 = lI has → A3.tmp G' 3 = .i .i64 loc → A3.tmp G' 4 = .fp (eT t) 0 → A3.tmp G' 9 = .i .i64 k → BD t l has loc k = true → Q' .norm G' h') (q2 : ∀ G' h', A3.tmp G' 8 = .b false → BD t l has loc k = false → Q' .ret G' h'),
          VL V EJ 2 A7D G [some ⟨BJ, 0, 0, false, [eN (t.at n)]⟩] Q' := by
        intro hr hx1 hx2 hx3 G Q' g1 g2 g3 g4 g9 g10 g11 q1 q2
        have hx3' : decide (0 ≤ (t.at n).thread) = true := by simp at hx3 ⊢; omega
        rw [hr, hx1, hx2, hx3'] at hcls
        simp only [Bool.and_self, Bool.true_and] at hcls
        refine Ad (by decide) k (by omega) (I := fun j F h => h = [some ⟨BJ, 0, 0, false, [eN (t.at n)]⟩] ∧ A3.tmp F 1 = lI l ∧ A3.tmp F 2 = lI has ∧ A3.tmp F 3 = .i .i64 loc ∧ A3.tmp F 4 = .fp (eT t) 0 ∧ A3.tmp F 9 = .i .i64 k ∧ A3.tmp F 10 = .p 0 0 0 0 ∧ ∀ i, i < j → AJ t (l.getD k 0) (l.getD i 0) = true) ?_ ?_ ?_ 0 _ _ (Nat.zero_le _) g11 ⟨rfl, g1, g2, g3, g4, g9, g10, fun i hi => by omega⟩
        · rintro j F h hj r1 ⟨rfl, r2, r3, r4, r5, r6, r7, r8⟩
          simp only [EJ, go_sem, ↓reduceIte, r1, r2, r3, r4, r5, r6, r7]
          exact r8
        · rintro j F h hj r1 ⟨rfl, r2, r3, r4, r5, r6, r7, r8⟩
          have hjl : j < l.length := by omega
          have c1 : Be has (l.getD j 0) = true := by
            have := p6 j hj
            unfold BD at this
            simp only [Bool.and_eq_true] at this
            exact this.1.1.1.1
          obtain ⟨n2, hn2, hn2'⟩ := Aa (hv _ (Ai.1 c1))
          have hsc : AJ t (l.getD k 0) (l.getD j 0) = (CE (t.at n) && CE (t.at n2) && decide ((t.at n).val = (t.at n2).val) && Bw t n n2) := by
            unfold AJ; rw [hn, hn2, Int.toNat_natCast, Int.toNat_natCast]
          have bad2 : AJ t (l.getD k 0) (l.getD j 0) = false → BD t l has loc k = false := fun h => by rw [hcls]; exact AZ hj h
          have good2 : AJ t (l.getD k 0) (l.getD j 0) = true → ∀ i, i < j + 1 → AJ t (l.getD k 0) (l.getD i 0) = true := fun h i hi => by
            by_cases e : i = j
            · rw [e]; exact h
            · exact r8 i (by omega)
          cases y1 : CE (t.at n) <;> cases y2 : CE (t.at n2) <;> cases y3 : decide ((t.at n).val = (t.at n2).val) <;> cases y4 : Bw t n n2 <;> rw [y1, y2, y3, y4] at hsc <;>
            simp only [EJ, go_sem, ↓reduceIte, r1, r2, r3, r4, r5, r6, r7, Aq hk, Aq hjl, hn, hn2, A4 hn2', Rh C, Pb C t hu, y1, y2, y3, y4]
          all_goals first
            | exact q2 _ _ (by simp only [go_sem, ↓reduceIte]) (bad2 hsc)
            | (have := good2 hsc; rw [hn] at this; exact this)
        · rintro F h ⟨rfl, r2, r3, r4, r5, r6, r7, r8⟩
          exact q1 _ _ r2 r3 r4 r5 r6 (by rw [hcls]; exact AY r8)
      have zb : (k = 0 ∧ decide ((0 : Int) < (k : Int)) = false) ∨ (0 < k ∧ decide ((0 : Int) < (k : Int)) = true) := by
        rcases Nat.eq_zero_or_pos k with h | h
        · exact .inl ⟨h, by simp [h]⟩
        · exact .inr ⟨h, by simp; omega⟩
      have hk1 : k - 1 < l.length := by omega
      rcases zb with ⟨zk, z0⟩ | ⟨zk, z0⟩
      · have hr : CL l k = true := by rw [hris, zk]; rfl
        simp only [EJ, go_sem, ↓reduceIte, p1, p2, p3, p4, p5, Aq hk, A9 C has (by omega), BT, hn, c0, z0, A4 hn']
        repeat' first
          | (refine Br (fun hx => ?_) (fun hx => ?_) <;> simp only [EJ, go_sem, ↓reduceIte, p1, p2, p3, p4, p5, hx])
          | (refine B5 (fun hx => ?_) (fun hx => ?_) <;> simp only [EJ, go_sem, ↓reduceIte, p1, p2, p3, p4, p5, hx])
        all_goals first
          | exact bad (by rw [hcls]; simp_all)
          | (refine tail hr (by simp_all) (by simp_all) (by assumption) _ _ ?_ ?_ ?_ ?_ ?_ ?_ ?_ ?_ ?_
             all_goals try simp only [go_sem, ↓reduceIte, p1, p2, p3, p4, p5]
             · intro G' e1 e2 e3 e4 e5 e6
               simp only [e1, e2, e3, e4, e5, go_sem]
               exact good e6
             · intro G' h' e1 e2
               simp only [e1, go_sem, bad e2])
      · have zw := Ee zk (by omega)
        simp only [EJ, go_sem, ↓reduceIte, p1, p2, p3, p4, p5, Aq hk, Aq hk1, A9 C has (by omega), BT, hn, c0, z0, zw, A4 hn']
        repeat' first
          | (refine Br (fun hx => ?_) (fun hx => ?_) <;> simp only [EJ, go_sem, ↓reduceIte, p1, p2, p3, p4, p5, Aq hk, hn, hx, A4 hn'])
          | (refine B5 (fun hx => ?_) (fun hx => ?_) <;> simp only [EJ, go_sem, ↓reduceIte, p1, p2, p3, p4, p5, Aq hk, hn, hx, A4 hn'])
        all_goals first
          | exact bad (by rw [hcls, hris]; simp_all; try omega)
          | (refine tail (by rw [hris]; simp_all) (by simp_all) (by simp_all) (by assumption) _ _ ?_ ?_ ?_ ?_ ?_ ?_ ?_ ?_ ?_
             all_goals try simp only [go_sem, ↓reduceIte, p1, p2, p3, p4, p5]
             · intro G' e1 e2 e3 e4 e5 e6
               simp only [e1, e2, e3, e4, e5, go_sem]
               exact good e6
             · intro G' h' e1 e2
               simp only [e1, go_sem, bad e2])
  · rintro F h ⟨rfl, p2, p3, p4, p5, p6⟩
    simp only [EJ, go_sem, ↓reduceIte]
    rw [Dp, AY p6]; simp [z]
  all_goals simp only [go_sem, ↓reduceIte]
  all_goals first | rfl | (intro j hj; omega)
end
end Go.AM

namespace Go.AM
open Go Go.Proofs
abbrev eLk (t : A5) (a : Int) : List VV := [.i .i64 t.vals, lS t.locs, .ls (t.regs.map JA), .ls (t.nodes.map eN), .i .i64 a]
abbrev LK (t : A5) (a : Int) : Option VO := some ⟨TJ, 0, 0, false, [eLk t a]⟩
@[go_sem] theorem Am2 {α : Type} (r s : List α) : (r ++ s)[r.length]? = s[0]? := by
 rw [List.getElem?_append_right (Nat.le_refl _), Nat.sub_self]
@[go_sem] theorem AjU {α : Type} (r s : List α) (k : Nat) : (r ++ s)[r.length + k]? = s[k]? := by
 rw [List.getElem?_append_right (Nat.le_add_right _ _), Nat.add_sub_cancel_left]
@[go_sem] theorem AlL {α : Type} (r s : List α) (x : α) : (r ++ s).set r.length x = r ++ s.set 0 x := by
 rw [List.set_append_right _ _ (Nat.le_refl _), Nat.sub_self]
@[go_sem] theorem AlK {α : Type} (r s : List α) (k : Nat) (x : α) : (r ++ s).set (r.length + k) x = r ++ s.set k x := by
 rw [List.set_append_right _ _ (Nat.le_add_right _ _), Nat.add_sub_cancel_left]
@[go_sem] theorem AdO {α : Type} (r s : List α) : (r ++ s).take r.length = r := by simp
@[go_sem] theorem Ae8 {α : Type} (r s : List α) (k : Nat) : (r ++ s).take (r.length + k) = r ++ s.take k := by rw [List.take_append, List.take_of_length_le (Nat.le_add_right _ _), Nat.add_sub_cancel_left]
@[go_sem] theorem AhG (L : Nat) (r s s' : VH) : LG L (r ++ s) (r ++ s') = LG L s s' := by
 induction r with
 | nil => rfl
 | cons x r ih => simp only [List.cons_append, Xg, ih, true_or, true_and]
@[go_sem] theorem AeT (L : Nat) (r s' : VH) : LG L r (r ++ s') = True := Yk L r s'
@[go_sem] theorem dz0 : decide ((0 : Int) < ((0 : Nat) : Int)) = false := rfl
@[go_sem] theorem AlW (n : Nat) : decide (0 < n + 1) = true := by simp
@[go_sem] theorem Amh (n : Nat) : decide (n < n + 1) = true := by simp
@[go_sem] theorem Am1 (n : Nat) : decide (n < n + 1 + 1) = true := by simp; omega
@[go_sem] theorem AlE (n : Nat) : decide (n < n + 1 + 1 + 1) = true := by simp; omega
@[go_sem] theorem Amc (n : Nat) : decide (n < n + 1 + 1 + 1 + 1) = true := by simp; omega
@[go_sem] theorem Ajp (n : Nat) : decide (1 < n + 1 + 1) = true := by rw [decide_eq_true_iff]; omega
@[go_sem] theorem Ajh (n : Nat) : decide (1 < n + 1 + 1 + 1) = true := by rw [decide_eq_true_iff]; omega
@[go_sem] theorem AkI (n : Nat) : decide (1 < n + 1 + 1 + 1 + 1) = true := by rw [decide_eq_true_iff]; omega
@[go_sem] theorem Ajl (n : Nat) : decide (1 < n + 1 + 1 + 1 + 1 + 1) = true := by rw [decide_eq_true_iff]; omega
@[go_sem] theorem Aij (n : Nat) : decide (1 < n + 1 + 1 + 1 + 1 + 1 + 1) = true := by rw [decide_eq_true_iff]; omega
@[go_sem] theorem Ak7 (n : Nat) : decide (1 < n + 1 + 1 + 1 + 1 + 1 + 1 + 1) = true := by rw [decide_eq_true_iff]; omega
@[go_sem] theorem Akw (n : Nat) : decide (1 < n + 1 + 1 + 1 + 1 + 1 + 1 + 1 + 1) = true := by rw [decide_eq_true_iff]; omega
@[go_sem] theorem Akf (n : Nat) : decide (2 < n + 1 + 1 + 1) = true := by rw [decide_eq_true_iff]; omega
@[go_sem] theorem Ajo (n : Nat) : decide (2 < n + 1 + 1 + 1 + 1) = true := by rw [decide_eq_true_iff]; omega
@[go_sem] theorem AjD (n : Nat) : decide (2 < n + 1 + 1 + 1 + 1 + 1) = true := by rw [decide_eq_true_iff]; omega
@[go_sem] theorem Aka (n : Nat) : decide (2 < n + 1 + 1 + 1 + 1 + 1 + 1) = true := by rw [decide_eq_true_iff]; omega
@[go_sem] theorem AiQ (n : Nat) : decide (2 < n + 1 + 1 + 1 + 1 + 1 + 1 + 1) = true := by rw [decide_eq_true_iff]; omega
@[go_sem] theorem Akm (n : Nat) : decide (2 < n + 1 + 1 + 1 + 1 + 1 + 1 + 1 + 1) = true := by rw [decide_eq_true_iff]; omega
@[go_sem] theorem AjS (n : Nat) : decide (3 < n + 1 + 1 + 1 + 1) = true := by rw [decide_eq_true_iff]; omega
@[go_sem] theorem AkC (n : Nat) : decide (3 < n + 1 + 1 + 1 + 1 + 1) = true := by rw [decide_eq_true_iff]; omega
@[go_sem] theorem Akt (n : Nat) : decide (3 < n + 1 + 1 + 1 + 1 + 1 + 1) = true := by rw [decide_eq_true_iff]; omega
@[go_sem] theorem Aia (n : Nat) : decide (3 < n + 1 + 1 + 1 + 1 + 1 + 1 + 1) = true := by rw [decide_eq_true_iff]; omega
@[go_sem] theorem Ai7 (n : Nat) : decide (3 < n + 1 + 1 + 1 + 1 + 1 + 1 + 1 + 1) = true := by rw [decide_eq_true_iff]; omega
@[go_sem] theorem Aja (n : Nat) : decide (4 < n + 1 + 1 + 1 + 1 + 1) = true := by rw [decide_eq_true_iff]; omega
@[go_sem] theorem Aic (n : Nat) : decide (4 < n + 1 + 1 + 1 + 1 + 1 + 1) = true := by rw [decide_eq_true_iff]; omega
@[go_sem] theorem Aip (n : Nat) : decide (4 < n + 1 + 1 + 1 + 1 + 1 + 1 + 1) = true := by rw [decide_eq_true_iff]; omega
@[go_sem] theorem AiD (n : Nat) : decide (4 < n + 1 + 1 + 1 + 1 + 1 + 1 + 1 + 1) = true := by rw [decide_eq_true_iff]; omega
@[go_sem] theorem Ajj (n : Nat) : decide (5 < n + 1 + 1 + 1 + 1 + 1 + 1) = true := by rw [decide_eq_true_iff]; omega
@[go_sem] theorem Ajr (n : Nat) : decide (5 < n + 1 + 1 + 1 + 1 + 1 + 1 + 1) = true := by rw [decide_eq_true_iff]; omega
@[go_sem] theorem Ajk (n : Nat) : decide (5 < n + 1 + 1 + 1 + 1 + 1 + 1 + 1 + 1) = true := by rw [decide_eq_true_iff]; omega
@[go_sem] theorem AhZ (n : Nat) : decide (6 < n + 1 + 1 + 1 + 1 + 1 + 1 + 1) = true := by rw [decide_eq_true_iff]; omega
@[go_sem] theorem Aj5 (n : Nat) : decide (6 < n + 1 + 1 + 1 + 1 + 1 + 1 + 1 + 1) = true := by rw [decide_eq_true_iff]; omega
attribute [go_sem] Option.isSome_some List.cons_append List.append_assoc List.nil_append
theorem K2 {xs : List (List ByteArray)} {k : Nat} (h : k < xs.length) : xs[k]? = some (xs.getD k []) := by
 rw [List.getD_eq_getElem?_getD, List.getElem?_eq_getElem h]; rfl
theorem P9 {xs : List ByteArray} {k : Nat} (h : k < xs.length) : xs[k]? = some xs[k] := List.getElem?_eq_getElem h
section
variable {V : At} (C : AS V) {Q : VV → Prop}
include C
theorem NM (l : List ByteArray) (hl : l.length ≤ 1000) (hn : l.Nodup) : VP V A3c [lS l] Q ↔ Q (.b false) := by
 refine Ab ?_
 rw [A8 C.c_z97.1 C.c_z97.2]
 simp only [A7V, S5, go_sem, ↓reduceIte]
 refine Am (by decide) l.length (by omega) (I := fun k F h => h = [] ∧ A3.tmp F 5 = lS l ∧ A3.tmp F 0 = lS l) ?_ ?_ 0 _ _ (Nat.zero_le _) ?_ ?_ ?_
 ·rintro k F h hk h1 h2 ⟨rfl, h3, h4⟩
  have hx : ((l.take k).any fun y => decide (l[k] = y)) = false := by
   rw [List.any_eq_false]
   intro y hy e
   have e' : l[k] = y := by simpa using e
   obtain ⟨j, hj, ej⟩ := List.mem_iff_getElem.1 hy
   rw [List.getElem_take] at ej
   rw [List.length_take] at hj
   have := (List.getElem_inj hn).1 (ej.trans e'.symm)
   omega
  have hk' : k ≤ l.length := by omega
  simp only [S5, go_sem, ↓reduceIte, h1, h2, h3, h4, P9 hk, hk', DY C (l.take k) _ (by simp; omega), hx, Int.toNat_natCast]
 ·rintro F h ⟨rfl, h3, h4⟩
  simp only [S5, go_sem, ↓reduceIte]
 all_goals simp only [go_sem, ↓reduceIte]
 all_goals rfl
theorem Hd (t : A5) (a n : Int) : VP V U7 [.fp (eLk t a) 0, .i .i64 n] Q ↔ Q (.b (HI t n)) := by
 refine Ab ?_
 rw [A8 C.c_z143.1 C.c_z143.2]
 unfold HI
 cases c0 : decide (0 ≤ n) <;> simp only [Za, UX, go_sem, ↓reduceIte, c0]
theorem KD (t : A5) (a n : Int) : VP V Tr [.fp (eLk t a) 0, .i .i64 n] Q ↔ Q (.b (Kp t n)) := by
 refine Ab ?_
 rw [A8 C.c_z189.1 C.c_z189.2]
 unfold Kp
 cases c0 : decide (0 ≤ n) <;> simp only [Zm, VD, go_sem, ↓reduceIte, c0]
theorem Ez (t : A5) (a u : Nat) (hu : u < t.nodes.length) : VP V Vx [.fp (eLk t a) 0, .i .i64 u] Q ↔ Q (.b (BH t a u)) := by
 refine Ab ?_
 rw [A8 C.c_z173.1 C.c_z173.2]
 unfold BH
 by_cases ha : a < t.nodes.length
 ·have ha' : (a : Int) < t.nodes.length := by omega
  cases c0 : decide ((t.at a).up = u) <;> simp only [SX, PB, go_sem, ↓reduceIte, ha, ha', A4 ha, A4 hu, c0, Int.toNat_natCast]
 ·have ha' : ¬ (a : Int) < t.nodes.length := by omega
  simp only [SX, PB, go_sem, ↓reduceIte, ha, ha']
theorem YC (t : A5) (a n : Int) : VP V Q2 [.i .i64 n, .fp [.fp (eLk t a) 0] 0] Q ↔ Q (.b (!HI t n)) := by
 refine Ab ?_
 rw [A8 C.c_z175.1 C.c_z175.2]
 simp only [ZN, VS, go_sem, ↓reduceIte, Hd C]
/-- What the call on a node does. -/
def Add (V : At) (t : A5) (u e : Nat) : Prop := ∀ (a : Int) (r : VH), HV V VN [.p 0 0 0 0, .i .i64 u] (LK t a :: r) fun v h => v = .b true ∧ h = LK t e :: r
theorem XS (t : A5) (hn : t.nodes.length ≤ 64) (u e : Nat) (hu : u + 1 < t.nodes.length) (ha : Dy t u = true) (hb : Add V t (u + 1) e) (r : VH) :
  HV V Tz [.p 0 0 0 0, .i .i64 u] (LK t ((u + 1 : Nat) : Int) :: r) fun v h => v = .b true ∧ h = LK t e :: r := by
 rw [Dm C.h_z176]
 have hu0 : u < t.nodes.length := by omega
 have hq := fun (r : VH) Q => J7 (hb ((u + 1 : Nat) : Int) r) (Q := Q)
 unfold Dy at ha
 simp only [Bool.or_eq_true, Bool.and_eq_true, decide_eq_true_eq] at ha
 rcases ha with ⟨⟨⟨⟨⟨h1, h2⟩, h3⟩, h4⟩, h5⟩, h6⟩ | ⟨⟨⟨h1, h2⟩, h3⟩, h4⟩
 ·have h4' : (t.at (u + 1)).rmw = false := by simpa using h4
  have h5' : 0 ≤ (t.at (u + 1)).mode := by omega
  have h7 : ¬ (t.at (u + 1)).mode = 0 := by omega
  simp only [PD, KK, go_sem, ↓reduceIte, A4 hu, A4 hu0, Int.toNat_natCast, h1, h2, h3, h4', h5', h6, h7, hq, A0]
 ·have h1' : ¬ (t.at (u + 1)).kind = 4 := by omega
  cases hr : (t.at (u + 1)).rmw with
  | true =>
   rw [hr] at h4
   simp only [if_true, Bool.and_eq_true, decide_eq_true_eq] at h4
   obtain ⟨⟨⟨⟨g1, g2⟩, g3⟩, g4⟩, g5⟩ := h4
   simp only [PD, KK, go_sem, ↓reduceIte, A4 hu, A4 hu0, Int.toNat_natCast, h1, h1', hr, KD C, Hd C, h2, h3, g1, g2, g3, g4, g5, hq, A0, Int.reduceEq]
  | false =>
   rw [hr] at h4
   simp only [Bool.false_eq_true, if_false, Bool.or_eq_true, decide_eq_true_eq] at h4
   have g1 : 0 ≤ (t.at (u + 1)).mode := by omega
   have g2 : (t.at (u + 1)).mode ≤ 4 := by omega
   rcases h4 with (h4 | h4) | h4 <;>
   simp only [PD, KK, go_sem, ↓reduceIte, A4 hu, A4 hu0, Int.toNat_natCast, h1, h1', hr, KD C, Hd C, h2, h3, g1, g2, h4, hq, A0, Int.reduceEq, Int.reduceLE]
theorem ZZ (t : A5) (hn : t.nodes.length ≤ 64) (u e : Nat) (hu : u < t.nodes.length) (vals : Nat) (k : Nat → Nat) (loc mode : Int) (hv : t.vals = vals) (hv0 : 0 < vals) (hv1 : vals ≤ 4) (hk0 : k 0 = u + 1) (hke : k vals = e) (hl : Kp t loc = true)
  (hs : ∀ v, v < vals → BH t (k v) u = true ∧ EN t (k v) v loc mode = true ∧ Add V t (k v) (k (v + 1)))
  (hm : (mode = 0 ∨ mode = 1 ∨ mode = 4) ∨ (0 ≤ mode ∧ mode ≤ 4 ∧ ∃ v, v < vals ∧ Ko t (k v) = true)) (r : VH) :
  HV V Td [.p 0 0 0 0, .i .i64 u] (LK t ((u + 1 : Nat) : Int) :: r) fun v h => v = .b true ∧ h = LK t e :: r := by
 rw [Dm C.h_z177]
 have h0 := hs 0 hv0
 rw [hk0] at h0
 obtain ⟨c0, s0, _⟩ := h0
 have hu1 : u + 1 < t.nodes.length := by
  unfold BH at c0
  simp only [Bool.and_eq_true, decide_eq_true_eq] at c0
  omega
 simp only [EN, Bool.and_eq_true, decide_eq_true_eq] at s0
 obtain ⟨⟨⟨⟨g1, g2⟩, g3⟩, g4⟩, g5⟩ := s0
 simp only [A0g, Hh, go_sem, ↓reduceIte, A4 hu1, Int.toNat_natCast, hv]
 refine Am (by decide) vals (by omega) (I := fun v F h => h = LK t (k v) :: (r ++ [some ⟨BJ, 0, 0, false, [eN (t.at (u + 1))]⟩]) ∧ A3.tmp F 0 = .p 0 0 0 0 ∧ A3.tmp F 1 = .i .i64 u ∧ A3.tmp F 5 = .p (r.length + 1) 0 0 0 ∧ A3.tmp F 6 = .b ((List.range v).any fun j => Ko t (k j))) ?_ ?_ 0 _ _ (Nat.zero_le _) ?_ ?_ ?_
 ·rintro v F h hv2 p1 p2 ⟨rfl, p3, p4, p5, p6⟩
  obtain ⟨c1, s1, b1⟩ := hs v hv2
  have hq := fun (r : VH) Q => J7 (b1 (k v) r) (Q := Q)
  have hkv : k v < t.nodes.length := by
   unfold BH at c1
   simp only [Bool.and_eq_true, decide_eq_true_eq] at c1
   omega
  simp only [EN, Bool.and_eq_true, decide_eq_true_eq] at s1
  obtain ⟨⟨⟨⟨q1, q2⟩, q3⟩, q4⟩, q5⟩ := s1
  have q5' : (t.at (k v)).rmw = false := by simpa using q5
  have w1 := Gy (show k v < 9223372036854775807 by omega)
  have hany : ((List.range (v + 1)).any fun j => Ko t (k j)) = (((List.range v).any fun j => Ko t (k j)) || Ko t (k v)) := by
   rw [List.range_succ, List.any_append]; simp
  rw [hany]
  clear hany
  generalize ((List.range v).any fun j => Ko t (k j)) = B at *
  by_cases z1 : k v + 1 < t.nodes.length
  ·have z1' : ((k v + 1 : Nat) : Int) < (t.nodes.length : Int) := by omega
   have z2 : decide (k v + 1 < t.nodes.length) = true := by simp [z1]
   unfold Ko
   rw [z2]
   cases z3 : decide ((t.at (k v + 1)).up = (k v : Int)) <;> cases B <;>
    simp only [TN, Hh, go_sem, ↓reduceIte, p1, p2, p3, p4, p5, p6, Ez C t _ u hu, c1, A4 hkv, A4 hu1, A4 z1, Int.toNat_natCast, q1, q2, q3, q4, q5', g1, g3, g4, hq, w1, z1', z3, List.length_append]
  ·have z1' : ¬ ((k v + 1 : Nat) : Int) < (t.nodes.length : Int) := by omega
   have z2 : decide (k v + 1 < t.nodes.length) = false := by simp [z1]
   unfold Ko
   rw [z2]
   simp only [TN, Hh, go_sem, ↓reduceIte, p1, p2, p3, p4, p5, p6, Ez C t _ u hu, c1, A4 hkv, A4 hu1, Int.toNat_natCast, q1, q2, q3, q4, q5', g1, g3, g4, hq, w1, z1']
 ·rintro F h ⟨rfl, p3, p4, p5, p6⟩
  rw [hke]
  rcases hm with hm | ⟨hm1, hm2, v, hv2, hm3⟩
  ·rcases hm with (hm | hm | hm) <;>
   simp only [Hh, go_sem, ↓reduceIte, p3, p4, p5, p6, g3, g4, hm, KD C, hl, Int.reduceEq]
  ·have hany : ((List.range vals).any fun j => Ko t (k j)) = true := X2 hv2 hm3
   rw [hany] at p6
   cases m0 : decide (mode = 0) <;> cases m1 : decide (mode = 1) <;> cases m2 : decide (mode = 4) <;>
   simp only [Hh, go_sem, ↓reduceIte, p3, p4, p5, p6, g3, g4, hm1, hm2, m0, m1, m2, KD C, hl, Int.reduceEq]
 all_goals simp only [go_sem, ↓reduceIte]
 ·rfl
 ·simp only [hk0, eN, g1, g2, g3, g4, List.range_zero, List.any_nil, go_sem]
theorem Ro (t : A5) (hn : t.nodes.length ≤ 64) (h4 : t.vals ≤ 4) (hr : ∀ l ∈ t.regs, l.length ≤ 1000) : ∀ n u e, JP t n u e → Add V t u e := by
 intro n
 induction n with
 | zero => intro u e h; exact h.elim
 | succ n ih =>
  intro u e hb a r
  obtain ⟨⟨hu, ht0, ht1⟩, hb⟩ := hb
  rw [Dm C.h_z144]
  have w1 := Gy (show u < 9223372036854775807 by omega)
  obtain ⟨th, hth⟩ := Int.eq_ofNat_of_zero_le ht0
  have ht1' : th < t.regs.length := by omega
  rcases hb with ⟨c0, e0, rfl⟩ | ⟨c0, f0, r0, a0, b0⟩ | ⟨c0, f0, r0, vals, k, loc, mode, hv, hv0, hk0, hke, hl, hs, hm⟩
  ·simp only [A2C, Bool.and_eq_true, decide_eq_true_eq] at e0
   obtain ⟨⟨g1, g2⟩, g3⟩ := e0
   rw [hth, Int.toNat_natCast] at g2
   have hall : ((t.at u).regs.any fun v => !HI t v) = false := by
    rw [List.any_eq_false]
    intro x hx
    rw [List.all_eq_true] at g3
    simp [g3 x hx]
   have hrl : (t.regs.getD th []).length ≤ 1000 := by
    by_cases z : th < t.regs.length
    ·exact hr _ (Ap z)
    ·omega
   have hcf := fun (a : Int) Q => Ep C (t.at u).regs (by omega) (g := Q2) (a := []) (c := [.fp [.fp (eLk t a) 0] 0]) Fz.nil (fun _ _ => rfl) (fun x => !HI t x) (fun x => (YC C t a x).2 rfl) (Q := Q)
   simp only [Qi, Kw, go_sem, ↓reduceIte, w1, Ez C t _ u hu, c0, A4 hu, Int.toNat_natCast, g1, g2, hth, K2 ht1', hcf, hall]
  ·have hu1 : u + 1 < t.nodes.length := by
    unfold BH at c0
    simp only [Bool.and_eq_true, decide_eq_true_eq] at c0
    omega
   have hq := fun (r : VH) Q => J7 (XS C t hn u e hu1 a0 (ih _ _ b0) r) (Q := Q)
   have hk2 : ¬ (t.at (u + 1)).kind = 2 := by
    unfold Dy at a0
    simp only [Bool.or_eq_true, Bool.and_eq_true, decide_eq_true_eq] at a0
    rcases a0 with ⟨⟨⟨⟨⟨h1, h2⟩, h3⟩, h4⟩, h5⟩, h6⟩ | ⟨⟨⟨h1, h2⟩, h3⟩, h4⟩ <;> omega
   simp only [Qi, Kw, go_sem, ↓reduceIte, w1, Ez C t _ u hu, c0, A4 hu, A4 hu1, Int.toNat_natCast, f0, r0, hk2, hq]
  ·have h0 := hs 0 hv0
   rw [hk0] at h0
   have hu1 : u + 1 < t.nodes.length := by
    unfold BH at c0
    simp only [Bool.and_eq_true, decide_eq_true_eq] at c0
    omega
   have hk2 : (t.at (u + 1)).kind = 2 := by
    have := h0.2.1
    simp only [EN, Bool.and_eq_true, decide_eq_true_eq] at this
    exact this.1.1.1.1
   have hq := fun (r : VH) Q => J7 (ZZ C t hn u e hu vals k loc mode hv hv0 (by omega) hk0 hke hl (fun v hv => ⟨(hs v hv).1, (hs v hv).2.1, ih _ _ (hs v hv).2.2⟩) hm r) (Q := Q)
   simp only [Qi, Kw, go_sem, ↓reduceIte, w1, Ez C t _ u hu, c0, A4 hu, A4 hu1, Int.toNat_natCast, f0, r0, hk2, hq]
theorem X4 (t : A5) (hn : t.nodes.length ≤ 64) (hl : t.locs.length ≤ t.nodes.length) (hi : ∀ i, i < t.locs.length → Je t i = true) (r : VH) :
  HV V A2F [.p 0 0 0 0] (LK t 0 :: r) fun v h => v = .b true ∧ h = LK t t.locs.length :: r := by
 rw [Dm C.h_z98]
 simp only [A5P, Nf, go_sem, ↓reduceIte]
 unfold VL
 rw [A0]
 refine AG (M := Nat) (I := fun k F h => k ≤ t.locs.length ∧ h = LK t (k : Int) :: r ∧ A3.tmp F 0 = .p 0 0 0 0) (μ := fun k => t.locs.length - k) ?_ 0 _ _ ⟨Nat.zero_le _, rfl, ?_⟩
 ·rintro k F h ⟨hk, rfl, p1⟩
  by_cases hkl : k < t.locs.length
  ·have hkl' : (k : Int) < t.locs.length := by omega
   have hkn : k < t.nodes.length := by omega
   have hkn' : ¬ (t.nodes.length : Int) ≤ k := by omega
   have w1 := Gy (show k < 9223372036854775807 by omega)
   have := hi k hkl
   unfold Je at this
   simp only [Bool.and_eq_true, decide_eq_true_eq] at this
   obtain ⟨⟨⟨⟨⟨⟨⟨⟨g1, g2⟩, g3⟩, g4⟩, g5⟩, g6⟩, g7⟩, g8⟩, g9⟩ := this
   have g7' : (t.at k).rmw = false := by simpa using g7
   have g8' : (t.at k).fin = false := by simpa using g8
   simp only [Ze, Nf, go_sem, ↓reduceIte, p1, hkl', hkn', A4 hkn, Int.toNat_natCast, g1, g2, g3, g4, g5, g6, g7', g8', g9, Hd C, w1, A0]
   exact ⟨k + 1, by omega, by omega, rfl⟩
  ·have hke : k = t.locs.length := by omega
   subst hke
   simp only [Ze, Nf, go_sem, ↓reduceIte, p1, A0]
 all_goals simp only [go_sem, ↓reduceIte]
theorem Rx (t : A5) (hn : t.nodes.length ≤ 64) (h4 : t.vals ≤ 4) (hr : ∀ l ∈ t.regs, l.length ≤ 1000) (hr4 : t.regs.length ≤ 4) (s : Nat → Nat) (hs0 : s 0 = t.locs.length) (hse : s t.regs.length = t.nodes.length)
  (hs : ∀ i, i < t.regs.length → G7 t (s i) i = true ∧ ∃ n, JP t n (s i) (s (i + 1))) (r : VH) :
  HV V A1S [.p 0 0 0 0] (LK t t.locs.length :: r) fun v h => v = .b true ∧ h = LK t t.nodes.length :: r := by
 rw [Dm C.h_z99]
 simp only [A6w, Nz, go_sem, ↓reduceIte]
 refine Am (by decide) t.regs.length (by omega) (I := fun i F h => h = LK t (s i) :: r ∧ A3.tmp F 0 = .p 0 0 0 0) ?_ ?_ 0 _ _ (Nat.zero_le _) ?_ ?_ ?_
 ·rintro i F h hi h1 h2 ⟨rfl, p1⟩
  obtain ⟨b0, nn, b1⟩ := hs i hi
  have hu : s i < t.nodes.length := by
   cases nn with
   | zero => exact b1.elim
   | succ nn => exact b1.1.1
  have hu' : ¬ (t.nodes.length : Int) ≤ s i := by omega
  have hq := fun (r : VH) Q => J7 (Ro C t hn h4 hr _ _ _ b1 (s i) r) (Q := Q)
  unfold G7 at b0
  simp only [Bool.and_eq_true, decide_eq_true_eq] at b0
  obtain ⟨⟨⟨⟨⟨⟨g1, g2⟩, g3⟩, g4⟩, g5⟩, g6⟩, g7⟩ := b0
  have g7' : (t.at (s i)).rmw = false := by simpa using g7
  simp only [A6O, Nz, go_sem, ↓reduceIte, h1, h2, p1, hu', A4 hu, Int.toNat_natCast, g1, g2, g3, g4, g5, g6, g7', hq]
 ·rintro F h ⟨rfl, p1⟩
  rw [hse]
  simp only [Nz, go_sem, ↓reduceIte, p1]
 all_goals simp only [go_sem, ↓reduceIte, hs0]
 all_goals rfl
theorem Nh (t : A5) (h : Aj t) : VP V Yd [vT t] Q ↔ Q (.b true) := by
 refine Ab ?_
 rw [A8 C.c_z44.1 C.c_z44.2]
 have a1 := h.v2
 have a2 := h.v4
 have a3 := h.l4
 have a4 := h.n64
 have a5 := h.r1
 have a6 := h.r4
 have b1 : ¬ t.vals < 2 := by omega
 have b2 : ¬ 4 < t.vals := by omega
 have b3 : ¬ (4 : Int) < t.locs.length := by omega
 have b4 : ¬ (64 : Int) < t.nodes.length := by omega
 have b5 : ¬ (t.regs.length : Int) < 1 := by omega
 have b6 : ¬ (4 : Int) < t.regs.length := by omega
 obtain ⟨s, s0, se, hs⟩ := h.thr
 have hrl : ∀ l ∈ t.regs, l.length ≤ 1000 := fun l hl => by have := (h.rl l hl).1; omega
 have q1 := fun (r : VH) Q => J7 (X4 C t h.n64 h.first.1 h.first.2 r) (Q := Q)
 have q2 := fun (r : VH) Q => J7 (Rx C t h.n64 h.v4 hrl h.r4 s s0 se hs r) (Q := Q)
 simp only [A85, SE, go_sem, ↓reduceIte, b1, b2, b3, b4, b5, b6, NM C t.locs (by omega) h.ln]
 refine Am (by decide) t.regs.length (by omega) (I := fun i F h => h = [] ∧ A3.tmp F 1 = .fp (eT t) 0 ∧ A3.tmp F 42 = .ls (t.regs.map JA)) ?_ ?_ 0 _ _ (Nat.zero_le _) ?_ ?_ ?_
 ·rintro i F hh hi h1 h2 ⟨rfl, p1, p2⟩
  have hm := h.rl _ (Ap (d := []) hi)
  have hb : ¬ (4 : Int) < (t.regs.getD i []).length := by omega
  simp only [A7j, SE, go_sem, ↓reduceIte, h1, h2, p1, p2, K2 hi, hb, NM C (t.regs.getD i []) (by omega) hm.2]
 ·rintro F hh ⟨rfl, p1, p2⟩
  simp only [SE, go_sem, ↓reduceIte, p1, q1, q2]
 all_goals simp only [go_sem, ↓reduceIte]
 all_goals rfl
end
end Go.AM

namespace Go.AM
open Go Go.Proofs
attribute [go_sem] Int.reduceLE Int.reduceLT Int.reduceEq Int.reduceToNat Int.reduceNeg Int.le_refl Int.toNat_natCast Int.cast_ofNat_Int
section
variable {V : At} (C : AS V) {Q : VV → Prop}
include C
theorem S7 (v n : Int) (h1 : 1 ≤ n) (h2 : n ≤ 2147483648) : VP V UT [.i .i64 v, .i .i64 n] Q ↔ Q (.i .i64 (v % n)) := by
 refine Ab ?_
 rw [A8 C.c_z157.1 C.c_z157.2]
 have c1 : ¬ n < 1 := by omega
 have c2 : ¬ 2147483648 < n := by omega
 obtain ⟨t1, t2⟩ := A8k (v := v) (show 0 < n by omega)
 by_cases c : v.tmod n < 0
 ·obtain ⟨t3, t4⟩ := t1 c
  have w : IntKind.i64.wrap (v.tmod n + n) = v % n := by rw [AE (by omega) (by omega), t3]
  simp only [Vm, R7, go_sem, ↓reduceIte, c1, c2, Gu (show n ≠ 0 by omega), c, w]
 ·have c' : ¬ v % n < 0 := by rw [← t2 c]; exact c
  simp only [Vm, R7, go_sem, ↓reduceIte, c1, c2, Gu (show n ≠ 0 by omega), t2 c, c']
theorem E3 (xs : List ByteArray) (n : ByteArray) (hl : xs.length ≤ 1000) : VP V VE [lS xs, .s n] Q ↔ Q (.i .i64 (GN (fun y => decide (n = y)) xs)) := by
 refine Ab ?_
 rw [A8 C.c_z154.1 C.c_z154.2]
 simp only [YY, Kv, go_sem, ↓reduceIte]
 refine Ad (by decide) xs.length (by omega) (I := fun k F h => h = [] ∧ A3.tmp F 0 = lS xs ∧ A3.tmp F 1 = .s n ∧ ∀ (j : Nat) (hj : j < xs.length), j < k → ¬ n = xs[j]) ?_ ?_ ?_ 0 _ _ (Nat.zero_le _) ?_ ?_
 ·rintro k F h hk p1 ⟨rfl, p2, p3, p4⟩
  simp only [Kv, go_sem, ↓reduceIte, p1, p2, p3]
  exact p4
 ·rintro k F h hk p1 ⟨rfl, p2, p3, p4⟩
  by_cases e : xs[k] = n
  ·simp only [Kv, go_sem, ↓reduceIte, p1, p2, p3, P9 hk, e]
   rw [DJ hk (by simp [e]) fun j hj => by simpa using p4 j (by omega) hj]
  ·simp only [Kv, go_sem, ↓reduceIte, p1, p2, p3, P9 hk, e]
   intro j hj hjk
   by_cases e2 : j = k
   ·subst e2; exact fun h => e h.symm
   ·exact p4 j hj (by omega)
 ·rintro F h ⟨rfl, p2, p3, p4⟩
  simp only [Kv, go_sem, ↓reduceIte]
  rw [Df fun x hx => by obtain ⟨j, hj, e⟩ := List.mem_iff_getElem.1 hx; rw [← e]; simpa using p4 j hj hj]
 all_goals simp only [go_sem, ↓reduceIte]
 all_goals first | rfl | (intro j hj hjk; omega)
theorem CI (xs : List ByteArray) (n : ByteArray) (hl : xs.length ≤ 1000) : VP V TS [lS xs, .s n] Q ↔ Q (.b (xs.any fun y => decide (n = y))) := by
 refine Ab ?_
 rw [A8 C.c_z148.1 C.c_z148.2]
 simp only [A0Z, TU, go_sem, ↓reduceIte, E3 C xs n hl, KF]
theorem Uz (r : List VV) (h : GE r) : VP V Uu [.ag r] fun x => ∃ k : Int, x = .i .i64 k := by
 induction h with
 | mk op n nm kids hl hk ih =>
  rw [A8 C.c_z194.1 C.c_z194.2]
  simp only [Yv, Hj, go_sem, ↓reduceIte]
  by_cases ho : op = 1 ∨ op = 2
  ·unfold VL
   rw [A0]
   refine AG (M := Nat) (I := fun k F h => h = [] ∧ A3.tmp F 1 = .fp [.i .i64 op, .i .i64 n, .s nm, .ls kids] 0 ∧ A3.tmp F 4 = .i .i64 0 ∧ A3.tmp F 3 = .i .i64 0) (μ := fun k => k) ?_ 0 _ _ ⟨rfl, ?_, ?_, ?_⟩
   ·rintro k F h ⟨rfl, p1, p2, p3⟩
    cases c0 : decide ((0 : Int) < kids.length) <;> rcases ho with ho | ho <;>
     simp only [A2G, Hj, go_sem, ↓reduceIte, p1, p2, p3, c0, ho, Int.reduceEq, A0] <;> exact ⟨_, rfl⟩
   all_goals simp only [go_sem, ↓reduceIte]
  ·have o1 : ¬ op = 1 := fun h => ho (.inl h)
   have o2 : ¬ op = 2 := fun h => ho (.inr h)
   refine Ad (by decide) kids.length (by omega) (I := fun k F h => h = [] ∧ A3.tmp F 1 = .fp [.i .i64 op, .i .i64 n, .s nm, .ls kids] 0 ∧ ∃ d : Int, A3.tmp F 3 = .i .i64 d) ?_ ?_ ?_ 0 _ _ (Nat.zero_le _) ?_ ?_
   ·rintro k F h hk' p1 ⟨rfl, p2, d, p3⟩
    cases c0 : decide ((k : Int) < kids.length)
    ·have : decide (k < kids.length) = false := by simp at c0 ⊢; omega
     simp only [Hj, go_sem, ↓reduceIte, p1, p2, p3, o1, o2, c0, this]
     try exact ⟨d, rfl⟩
    ·have : decide (k < kids.length) = true := by simp at c0 ⊢; omega
     simp only [Hj, go_sem, ↓reduceIte, p1, p2, p3, o1, o2, c0, this]
     try exact ⟨d, rfl⟩
   ·rintro k F h hk' p1 ⟨rfl, p2, d, p3⟩
    have hg := hk _ (List.getElem_mem hk')
    simp only [Hj, go_sem, ↓reduceIte, p1, p2, p3, Rl hk', hg.len, hg.take, hg.frz]
    refine (ih _ (List.getElem_mem hk')).mono ?_
    rintro _ ⟨e, rfl⟩
    cases c0 : decide (d < e) <;>
    simp only [Hj, go_sem, ↓reduceIte, p1, p2, p3, c0] <;> exact ⟨_, rfl⟩
   ·rintro F h ⟨rfl, p2, d, p3⟩
    simp only [Hj, go_sem, ↓reduceIte, p3]
    try exact ⟨_, rfl⟩
   all_goals simp only [go_sem, ↓reduceIte]
   all_goals first | rfl | exact ⟨_, rfl⟩
theorem Vy (regs : List ByteArray) (vals : List Int) (hr : regs.length ≤ 1000) (hl : vals.length = regs.length) (n : Int) (h1 : 2 ≤ n) (h2 : n ≤ 2147483648) (r : List VV) (h : GE r) :
  VP V Vz [.ag r, lS regs, lI vals, .i .i64 n] fun x => ∃ (k : Int) (b : Bool), x = .tu [.i .i64 k, .b b] ∧ 0 ≤ k ∧ k < n := by
 have hin : ∀ v : Int, 0 ≤ v % n ∧ v % n < n := fun v => ⟨Int.emod_nonneg v (by omega), Int.emod_lt_of_pos v (by omega)⟩
 have q5 := fun v Q => S7 C v n (by omega) h2 (Q := Q)
 induction h with
 | mk op m nm kids hkl hk ih =>
  rw [A8 C.c_z195.1 C.c_z195.2]
  by_cases o1 : op = 1
  ·simp only [J8, D5, go_sem, ↓reduceIte, o1, A0, q5]
   exact ⟨_, _, rfl, hin m⟩
  by_cases o2 : op = 2
  ·cases c0 : regs.any fun y => decide (nm = y) with
   | false =>
    have e := Y1 c0
    simp only [J8, D5, go_sem, ↓reduceIte, o2, A0, q5, Int.reduceEq, E3 C regs nm hr, e, Int.reduceLT, Int.reduceNeg]
    exact ⟨_, _, rfl, by omega, by omega⟩
   | true =>
    obtain ⟨k, e, hk', _⟩ := M9 c0
    have hk2 : k < vals.length := by omega
    have hk3 : ¬ (k : Int) < 0 := by omega
    simp only [J8, D5, go_sem, ↓reduceIte, o2, A0, q5, Int.reduceEq, E3 C regs nm hr, e, hk3, Aq hk2]
    exact ⟨_, _, rfl, hin _⟩
  by_cases o3 : op < 3
  ·simp only [J8, D5, go_sem, ↓reduceIte, o1, o2, o3, A0]
   exact ⟨_, _, rfl, by omega, by omega⟩
  by_cases o4 : 6 < op
  ·simp only [J8, D5, go_sem, ↓reduceIte, o1, o2, o3, o4, A0]
   exact ⟨_, _, rfl, by omega, by omega⟩
  by_cases o5 : (kids.length : Int) = 2
  ·obtain ⟨a, b, rfl⟩ : ∃ a b, kids = [a, b] := by
    rcases kids with _ | ⟨a, _ | ⟨b, _ | ⟨c, l⟩⟩⟩
    ·simp at o5
    ·simp at o5
    ·exact ⟨a, b, rfl⟩
    ·simp at o5; omega
   have ga := hk a (by simp)
   have gb := hk b (by simp)
   simp only [J8, D5, go_sem, ↓reduceIte, o1, o2, o3, o4, o5, A0, ga.len, ga.take, ga.frz, gb.len, gb.take, gb.frz, Int.reduceEq, Int.cast_ofNat_Int]
   refine (ih a (by simp)).mono ?_
   rintro _ ⟨ka, ba, rfl, _, _⟩
   simp only [D5, go_sem, ↓reduceIte, gb.len, gb.take, gb.frz]
   refine (ih b (by simp)).mono ?_
   rintro _ ⟨kb, bb, rfl, _, _⟩
   have hop : op = 3 ∨ op = 4 ∨ op = 5 ∨ op = 6 := by omega
   cases ba with
   | false =>
    simp only [D5, go_sem, ↓reduceIte]
    exact ⟨_, _, rfl, by omega, by omega⟩
   | true =>
    cases bb with
    | false =>
     simp only [D5, go_sem, ↓reduceIte]
     exact ⟨_, _, rfl, by omega, by omega⟩
    | true =>
     rcases hop with rfl | rfl | rfl | rfl
     ·simp only [D5, go_sem, ↓reduceIte, A0, q5, Int.reduceEq]
      exact ⟨_, _, rfl, hin _⟩
     ·simp only [D5, go_sem, ↓reduceIte, A0, q5, Int.reduceEq]
      exact ⟨_, _, rfl, hin _⟩
     ·cases c0 : decide (ka = kb) <;>
      simp only [D5, go_sem, ↓reduceIte, A0, q5, Int.reduceEq, c0] <;>
      exact ⟨_, _, rfl, by omega, by omega⟩
     ·cases c0 : decide (ka < kb) <;>
      simp only [D5, go_sem, ↓reduceIte, A0, q5, Int.reduceEq, c0] <;>
      exact ⟨_, _, rfl, by omega, by omega⟩
  ·simp only [J8, D5, go_sem, ↓reduceIte, o1, o2, o3, o4, o5, A0]
   exact ⟨_, _, rfl, by omega, by omega⟩
theorem DI (regs : List ByteArray) (vals : List Int) (hr : regs.length ≤ 1000) (hl : vals.length = regs.length) (n : Int) (h1 : 2 ≤ n) (h2 : n ≤ 4) (r : List VV) (h : GE r) :
  VP V PU [.ag r, lS regs, lI vals, .i .i64 n] fun x => ∃ (k : Int) (b : Bool), x = .tu [.i .i64 k, .b b] ∧ 0 ≤ k ∧ k < n := by
 have c1 : ¬ n < 2 := by omega
 have c2 : ¬ 4 < n := by omega
 have c3 : (regs.length : Int) = vals.length := by omega
 rw [A8 C.c_z183.1 C.c_z183.2]
 have hb : ∀ L, Ct L r = true := fun L => by cases h; rfl
 simp only [Zj, LH, go_sem, ↓reduceIte, c1, c2, c3, h.len, h.take, h.frz, h.cell]
 refine (Uz C r h).mono ?_
 rintro _ ⟨k, rfl⟩
 cases c0 : decide (6 < k) with
 | true =>
  simp only [LH, go_sem, ↓reduceIte, c0]
  exact ⟨_, _, rfl, by omega, by omega⟩
 | false =>
  simp only [LH, go_sem, ↓reduceIte, c0, h.len, h.take, h.frz]
  refine (Vy C regs vals hr hl n h1 (by omega) r h).mono ?_
  rintro _ ⟨k, b, rfl, hk⟩
  simp only [LH, go_sem, ↓reduceIte]
  exact ⟨_, _, rfl, hk⟩
theorem C4 (k : Int) : VP V Tx [.i .i64 k] Q ↔ Q (.b (GM k)) := by
 refine Ab ?_
 rw [A8 C.c_z182.1 C.c_z182.2]
 unfold GM
 cases c1 : decide (k = 1) <;> cases c2 : decide (k = 2) <;> cases c3 : decide (k = 4) <;>
 simp only [YK, UC, go_sem, ↓reduceIte, c1, c2, c3]
/-- What names come of statements. -/
def A65 (V : At) (l : List (List VV)) : Prop := ∀ out : List ByteArray, out.Nodup → (∀ n ∈ out, n ∈ N4) → VP V N5 [lS out, .ls l] fun x => ∃ o : List ByteArray, x = lS o ∧ o.Nodup ∧ (∀ n ∈ out, n ∈ o) ∧ (∀ n ∈ o, n ∈ N4) ∧ ∀ r ∈ l, RI o r
omit C in
theorem ML {o : List ByteArray} (h : o.Nodup) (h4 : ∀ n ∈ o, n ∈ N4) : o.length ≤ 4 := List.Nodup.length_le_of_subset h h4
theorem Hl (l : List (List VV)) (hl : l.length ≤ 1000) (hs : ∀ s ∈ l, ∃ kind mode reg loc args th el, s = rS kind mode reg loc args th el ∧ (GM kind = true → reg ∈ N4) ∧ A65 V th ∧ A65 V el) : A65 V l := by
 intro out hn h4
 rw [A8 C.c_z152.1 C.c_z152.2]
 simp only [A0Q, Dz, go_sem, ↓reduceIte]
 refine Ad (by decide) l.length (by omega) (I := fun k F h => h = [] ∧ A3.tmp F 1 = .ls l ∧ ∃ o : List ByteArray, A3.tmp F 0 = lS o ∧ o.Nodup ∧ (∀ n ∈ out, n ∈ o) ∧ (∀ n ∈ o, n ∈ N4) ∧ ∀ j (hj : j < l.length), j < k → RI o l[j]) ?_ ?_ ?_ 0 _ _ (Nat.zero_le _) ?_ ?_
 ·rintro k F h hk p1 ⟨rfl, p2, o, p3, p4⟩
  simp only [Dz, go_sem, ↓reduceIte, p1, p2, p3]
  exact ⟨o, rfl, p4⟩
 ·rintro k F h hk p1 ⟨rfl, p2, o, p3, p4, p5, p6, p7⟩
  obtain ⟨kind, mode, reg, loc, args, th, el, e, hreg, a1, a2⟩ := hs _ (List.getElem_mem hk)
  have ho := ML p4 p6
  have hk2 := Rl hk
  rw [e] at hk2
  have fin : ∀ o2 : List ByteArray, o2.Nodup → (∀ n ∈ o, n ∈ o2) → (∀ n ∈ o2, n ∈ N4) → (GM kind = true → reg ∈ o2) → VP V N5 [lS o2, .ls th] fun x => ∃ o3 : List ByteArray, x = lS o3 ∧ VP V N5 [lS o3, .ls el] fun x => ∃ o4 : List ByteArray, x = lS o4 ∧ o4.Nodup ∧ (∀ n ∈ out, n ∈ o4) ∧ (∀ n ∈ o4, n ∈ N4) ∧ ∀ j (hj : j < l.length), j < k + 1 → RI o4 l[j] := by
   intro o2 g1 g2 g3 g4
   refine (a1 o2 g1 g3).mono ?_
   rintro _ ⟨o3, rfl, q1, q2, q3, q4⟩
   refine ⟨o3, rfl, (a2 o3 q1 q3).mono ?_⟩
   rintro _ ⟨o4, rfl, r1, r2, r3, r4⟩
   refine ⟨o4, rfl, r1, fun n hn => r2 _ (q2 _ (g2 _ (p5 _ hn))), r3, fun j hj hjk => ?_⟩
   by_cases ej : j = k
   ·subst ej
    rw [e]
    exact .mk _ _ _ _ _ _ _ (fun h => r2 _ (q2 _ (g4 h))) (fun s hs => (q4 s hs).mono r2) r4
   ·exact (p7 j hj (by omega)).mono fun n hn => r2 _ (q2 _ (g2 _ hn))
  cases c0 : GM kind with
  | false =>
   simp only [Dz, go_sem, ↓reduceIte, p1, p2, p3, hk2, C4 C, c0]
   refine (fin o p4 (fun n h => h) p6 (fun h => by rw [c0] at h; cases h)).mono ?_
   rintro _ ⟨o3, rfl, hv⟩
   simp only [Dz, go_sem, ↓reduceIte, p1, p2, p3, hk2]
   refine hv.mono ?_
   rintro _ ⟨o4, rfl, hv⟩
   simp only [Dz, go_sem, ↓reduceIte, p1, p2, p3, hk2]
   exact ⟨o4, rfl, hv⟩
  | true =>
   cases c1 : o.any fun y => decide (reg = y) with
   | true =>
    have hreg2 : reg ∈ o := by
     rw [List.any_eq_true] at c1
     obtain ⟨x, hx, e⟩ := c1
     rw [of_decide_eq_true e]; exact hx
    simp only [Dz, go_sem, ↓reduceIte, p1, p2, p3, hk2, C4 C, c0, CI C o reg (by omega), c1]
    refine (fin o p4 (fun n h => h) p6 (fun h => hreg2)).mono ?_
    rintro _ ⟨o3, rfl, hv⟩
    simp only [Dz, go_sem, ↓reduceIte, p1, p2, p3, hk2]
    refine hv.mono ?_
    rintro _ ⟨o4, rfl, hv⟩
    simp only [Dz, go_sem, ↓reduceIte, p1, p2, p3, hk2]
    exact ⟨o4, rfl, hv⟩
   | false =>
    have hreg2 : reg ∉ o := by
     intro h
     rw [List.any_eq_false] at c1
     simpa using c1 reg h
    have nd : (o ++ [reg]).Nodup := List.nodup_append.2 ⟨p4, by simp, by intro a ha b hb; simp at hb; subst hb; intro e; subst e; exact hreg2 ha⟩
    have sub : ∀ n ∈ o ++ [reg], n ∈ N4 := fun n hn => by
     rcases List.mem_append.1 hn with h | h
     ·exact p6 n h
     ·rw [List.mem_singleton.1 h]; exact hreg c0
    have f2 := fin (o ++ [reg]) nd (fun n h => List.mem_append_left _ h) sub (fun _ => by simp)
    have b0 : o.length * 16 ≤ A6 := by unfold A6; omega
    have b1 : (o.length + 1) * 16 ≤ A6 := by unfold A6; omega
    simp only [Dz, go_sem, ↓reduceIte, p1, p2, p3, hk2, C4 C, c0, CI C o reg (by omega), c1, b0, b1]
    refine f2.mono ?_
    rintro _ ⟨o3, rfl, hv⟩
    simp only [Dz, go_sem, ↓reduceIte, p1, p2, p3, hk2]
    refine hv.mono ?_
    rintro _ ⟨o4, rfl, hv⟩
    simp only [Dz, go_sem, ↓reduceIte, p1, p2, p3, hk2]
    exact ⟨o4, rfl, hv⟩
 ·rintro F h ⟨rfl, p2, o, p3, p4, p5, p6, p7⟩
  simp only [Dz, go_sem, ↓reduceIte, p3]
  refine ⟨o, rfl, p4, p5, p6, fun r hr => ?_⟩
  obtain ⟨j, hj, rfl⟩ := List.mem_iff_getElem.1 hr
  exact p7 j hj hj
 all_goals simp only [go_sem, ↓reduceIte]
 exact ⟨out, rfl, hn, fun n h => h, h4, fun j hj hjk => by omega⟩
theorem WV {locs : List ByteArray} {r : List VV} (h : GS locs r) : ∃ kind mode reg loc args th el, r = rS kind mode reg loc args th el ∧ (GM kind = true → reg ∈ N4) ∧ A65 V th ∧ A65 V el := by
 induction h with
 | mk kind mode reg loc args th el h1 h2 h3 h4 h5 h6 h7 ih1 ih2 => exact ⟨kind, mode, reg, loc, args, th, el, rfl, h7.rn, Hl C th h3 ih1, Hl C el h4 ih2⟩
theorem XZ {locs : List ByteArray} (l : List (List VV)) (hl : l.length ≤ 1000) (h : ∀ s ∈ l, GS locs s) : VP V TE [.ls l] fun x => ∃ o : List ByteArray, x = lS o ∧ o.Nodup ∧ (∀ n ∈ o, n ∈ N4) ∧ ∀ r ∈ l, RI o r := by
 rw [A8 C.c_z104.1 C.c_z104.2]
 simp only [Zs, Qy, go_sem, ↓reduceIte]
 refine (Hl C l hl (fun s hs => WV C (h s hs)) [] (by simp) (by simp)).mono ?_
 rintro _ ⟨o, rfl, h1, h2, h3, h4⟩
 simp only [Qy, go_sem, ↓reduceIte]
 exact ⟨o, rfl, h1, h3, h4⟩
end
end Go.AM
