/-
  Own work, part of the proof of CoheLess: what functions compute (first part).
-/
import Derived.Test.YtpcpldaangchaaaGreatDoorCoF
import Derived.Test.YtpcpldaangchaaaGreatDoorPl
set_option maxRecDepth 4000
set_option linter.unusedVariables false
set_option linter.unusedSimpArgs false
set_option linter.unusedSectionVars false
set_option linter.unnecessarySimpa false
namespace Go.AM
open Go Go.Proofs
section
variable {V : Ao} (C : AL V) {Q : VV → Prop}
include C
theorem HG (i : Int) : VP V A2n [.i .i64 i] Q ↔ Q (vW (CX i)) := by
 refine Aa ?_
 rw [A8 C.c_z80.1 C.c_z80.2]
 unfold CX
 by_cases h0 : i < 0
 ·simp only [X2, RZ, go_sem, ↓reduceIte, h0]
  rw [if_neg (by omega)]
 ·by_cases h1 : 64 ≤ i
  ·simp only [X2, RZ, go_sem, ↓reduceIte, h0, h1]
   rw [if_neg (by omega)]
  ·obtain ⟨n, rfl⟩ := Int.eq_ofNat_of_zero_le (by omega : 0 ≤ i)
   simp only [X2, RZ, go_sem, ↓reduceIte, h0, h1, Ack (show n < 64 by omega)]
   rw [if_pos (by omega)]
theorem AQ (s : BitVec 64) (i : Int) : VP V A1M [vW s, .i .i64 i] Q ↔ Q (.b (Ck s i)) := by
 refine Aa ?_
 rw [A8 C.c_z34.1 C.c_z34.2]
 simp only [A4b, A2d, go_sem, ↓reduceIte, HG C, A8A]
theorem CT (s : BitVec 64) (i : Int) : VP V A1z [vW s, .i .i64 i] Q ↔ Q (vW (s ||| CX i)) := by
 refine Aa ?_
 rw [A8 C.c_z90.1 C.c_z90.2]
 simp only [A4L, A0W, go_sem, ↓reduceIte, HG C]
theorem Ku (s t : BitVec 64) : VP V A1G [vW s, vW t] Q ↔ Q (.b (decide (s &&& ~~~t = 0#64))) := by
 refine Aa ?_
 rw [A8 C.c_z99.1 C.c_z99.2]
 simp only [A7d, A0B, go_sem, ↓reduceIte]
theorem M3 (xs : List Int) (hl : xs.length < 9223372036854775807) : VP V A0R [lI xs] Q ↔ Q (vW (D6 xs)) := by
 refine Aa ?_
 rw [A8 C.c_z48.1 C.c_z48.2]
 simp only [A68, RT, go_sem, ↓reduceIte]
 refine Ah (by decide) xs.length hl (I := fun k F h => h = [] ∧ A3.tmp F 6 = lI xs ∧ A3.tmp F 3 = vW (D6 (xs.take k))) ?_ ?_ 0 _ _ (by omega) ?_ ?_ ?_
 ·rintro k F h hk h1 h2 ⟨rfl, h3, h4⟩
  simp only [RT, go_sem, ↓reduceIte, h1, h2, h3, h4, List.getElem?_eq_getElem hk, HG C]
  rw [List.take_succ_eq_append_getElem hk]
  simp only [D6, List.foldl_append, List.foldl_cons, List.foldl_nil]
 ·rintro F h ⟨rfl, h3, h4⟩
  rw [List.take_length] at h4
  simp only [RT, go_sem, ↓reduceIte, h4]
 all_goals simp only [go_sem, ↓reduceIte]
 all_goals rfl
theorem LL (lo hi : Int) (hlo : lo < 9223372036854775808) : VP V NV [.i .i64 lo, .i .i64 hi] Q ↔ Q (vW (Ek lo hi)) := by
 refine Aa ?_
 rw [A8 C.c_z127.1 C.c_z127.2]
 have hm : Tx false hi 64 = min hi 64 := by unfold Tx; simp only [cond_false]; split <;> omega
 have hm0 : Tx true lo 0 = max lo 0 := by unfold Tx; simp only [cond_true]; split <;> omega
 simp only [Y8, Mr, go_sem, ↓reduceIte]
 unfold VL
 rw [A0]
 refine AI (M := Nat) (I := fun k F h => h = [] ∧ A3.tmp F 1 = .i .i64 hi ∧ A3.tmp F 6 = .i .i64 k ∧ A3.tmp F 5 = vW (Bw fun i => decide (lo ≤ (i : Int) ∧ i < k)) ∧ lo ≤ k ∧ (k : Int) ≤ max lo (max 0 (min hi 64))) (μ := fun k => 64 - k) ?_ (max lo 0).toNat _ _ ⟨rfl, ?_, ?_, ?_, ?_, ?_⟩
 ·rintro k F h ⟨rfl, h1, h2, h3, h4, h5⟩
  by_cases hk : (k : Int) < min hi 64
  ·simp only [Tn, Mr, go_sem, ↓reduceIte, h1, h2, h3, hm, hk, A0, HG C]
   have hw : IntKind.i64.wrap ((k : Int) + 1) = ((k + 1 : Nat) : Int) := by rw [AC (by omega) (by omega)]; omega
   refine ⟨k + 1, by omega, ?_⟩
   rw [hw]
   refine ⟨rfl, ?_, by omega, by omega⟩
   rw [Pb _ _ (by omega)]
   congr 1
   apply BN
   intro j hj
   by_cases e : j = k
   ·subst e; simp; omega
   ·by_cases e2 : j < k
    ·have : j < k + 1 := by omega
     simp [e, e2, this]
    ·have : ¬ j < k + 1 := by omega
     simp [e, e2, this]
  ·simp only [Tn, Mr, go_sem, ↓reduceIte, h1, h2, h3, hm, hk, Nat.beq_refl]
   congr 1
   apply BN
   intro j hj
   by_cases e : lo ≤ (j : Int)
   ·have : (j < k) ↔ ((j : Int) < hi) := by omega
    simp [e, this]
   ·simp [e]
 ·simp only [go_sem, ↓reduceIte]
 ·simp only [go_sem, ↓reduceIte, hm0]
  omega
 ·simp only [go_sem, ↓reduceIte]
  rw [← GV]
  congr 1
  apply BN
  intro j hj
  simp
  omega
 ·omega
 ·omega
theorem Pe (xs : List Int) (i : Int) (hl : xs.length < 1000) {Q : VV → VH → Prop} : KX V MG [.p 1 0 0 0, .i .i64 i] [some (AP AS 1 (xs.map eI)), some ⟨G5, 0, 0, false, [[.sl 0 xs.length 0 xs.length]]⟩] Q ↔
  Q (.tu []) [some (AP AS 1 ((xs ++ [i]).map eI)), some ⟨G5, 0, 0, false, [[.sl 0 (xs ++ [i]).length 0 (xs ++ [i]).length]]⟩] := by
 refine MI ?_
 rw [Em C.h_z136]
 have h1 : (xs.length + 1) * 8 ≤ A5 := by unfold A5; omega
 simp only [YH, NN, go_sem, ↓reduceIte, h1]
theorem Aia (s : BitVec 64) (h : s ≠ 0#64) : VP V AE [vW s] Q ↔ Q (.i .i64 (Lib.ctz 64 s.toNat : Nat)) := by
 refine Aa ?_
 unfold VP
 rw [C.c_mathbits_TrailingZeros64]
 have := s.isLt
 refine ⟨.i .i64 (Lib.ctz 64 s.toNat : Nat), ?_, rfl, rfl⟩
 unfold YA vW
 simp only
 rw [if_pos (by omega), Int.toNat_natCast]
/-- What is added for each that a set has. -/
theorem UV (s : BitVec 64) : KX V JG [vW s, .f MG [.p 1 0 0 0] []] [some Dv, some ⟨G5, 0, 0, false, [[.sl 0 0 0 0]]⟩]
  fun _ h => h = [some (AP AS 1 ((AK s).map eI)), some ⟨G5, 0, 0, false, [[.sl 0 (AK s).length 0 (AK s).length]]⟩] := by
 rw [Em C.h_z135]
 simp only [Mp, Hs, go_sem, ↓reduceIte]
 unfold VL
 rw [A0]
 refine AI (M := BitVec 64 × List Nat) (I := fun x F h => A3.tmp F 0 = vW x.1 ∧ A3.tmp F 1 = .f MG [.p 1 0 0 0] [] ∧ x.2 ++ BO x.1 = BO s ∧ h = [some (AP AS 1 ((x.2.map fun (i : Nat) => (i : Int)).map eI)), some ⟨G5, 0, 0, false, [[.sl 0 x.2.length 0 x.2.length]]⟩]) (μ := fun x => (BO x.1).length) ?_ (s, []) _ _ ⟨?_, ?_, rfl, rfl⟩
 ·rintro ⟨t, l⟩ F h ⟨h1, h2, h3, rfl⟩
  simp only at h1 h2 h3 ⊢
  by_cases ht : t = 0#64
  ·subst ht
   rw [XL, List.append_nil] at h3
   simp only [Hs, go_sem, ↓reduceIte, h1, h2, AK, h3]
  ·have hs := XV ht
   have hl : l.length < 1000 := by
    have := congrArg List.length h3
    have h4 := Du s
    simp only [AK, List.length_map, List.length_append] at this h4
    omega
   have hx := fun Q => Pe C (l.map fun (i : Nat) => (i : Int)) (Lib.ctz 64 t.toNat : Nat) (by simpa using hl) (Q := Q)
   simp only [List.length_map, List.length_append, List.length_cons, List.length_nil] at hx
   simp only [Hs, go_sem, ↓reduceIte, h1, h2, ht, A0, Aia C t ht]
   rw [hx]
   refine ⟨?_, (t &&& (t - 1#64), l ++ [Lib.ctz 64 t.toNat]), ?_, rfl, ?_, ?_⟩
   ·simp only [go_sem]
   ·rw [hs]; simp
   ·rw [← h3, hs]; simp
   ·simp
 all_goals simp only [go_sem]
theorem Do (s : BitVec 64) : VP V A20 [vW s] Q ↔ Q (lI (AK s)) := by
 refine Aa ?_
 rw [A8 C.c_z91.1 C.c_z91.2]
 simp only [A73, Wz, go_sem, ↓reduceIte, Qh]
 obtain ⟨vf, h1, h2⟩ := UV C s
 refine ⟨vf, h1, h2.mono ?_⟩
 rintro v _ rfl
 simp only [Wz, go_sem, ↓reduceIte]
theorem Dq (xs : List Int) (n : Int) (hl : xs.length < 9223372036854775807) : VP V A0Y [lI xs, .i .i64 n] Q ↔ Q (.i .i64 (CL (fun y => decide (n = y)) xs)) := by
 refine Aa ?_
 rw [A8 C.c_z49.1 C.c_z49.2]
 simp only [A3Y, PD, go_sem, ↓reduceIte]
 refine Ah (by decide) xs.length hl (I := fun k F h => h = [] ∧ A3.tmp F 0 = lI xs ∧ A3.tmp F 1 = .i .i64 n ∧ ∀ (j : Nat) (hj : j < xs.length), j < k → ¬ n = xs[j]) ?_ ?_ 0 _ _ (by omega) ?_ ?_ ?_
 ·rintro k F h hk h1 h2 ⟨rfl, h3, h4, h5⟩
  by_cases e : n = xs[k]
  ·subst e
   simp only [PD, go_sem, ↓reduceIte, h1, h2, h3, h4, List.getElem?_eq_getElem hk]
   rw [DY hk (by simp) fun j hj => by simpa using h5 j (by omega) hj]
  ·simp only [PD, go_sem, ↓reduceIte, h1, h2, h3, h4, List.getElem?_eq_getElem hk, e]
   intro j hj hjk
   by_cases e2 : j = k
   ·subst e2; exact e
   ·exact h5 j hj (by omega)
 ·rintro F h ⟨rfl, h3, h4, h5⟩
  simp only [PD, go_sem, ↓reduceIte]
  rw [Ds fun x hx => by obtain ⟨j, hj, e⟩ := List.mem_iff_getElem.1 hx; rw [← e]; simpa using h5 j hj hj]
 all_goals simp only [go_sem, ↓reduceIte]
 all_goals first | rfl | (intro j hj hjk; omega)
theorem Ga (xs : List Int) (n : Int) (hl : xs.length < 9223372036854775807) : VP V A1h [lI xs, .i .i64 n] Q ↔ Q (.b (xs.any fun y => decide (n = y))) := by
 refine Aa ?_
 rw [A8 C.c_z52.1 C.c_z52.2]
 simp only [A6M, A1r, go_sem, ↓reduceIte, Dq C _ _ hl, K9]
theorem E9 (xs : List ByteArray) (n : ByteArray) (hl : xs.length < 9223372036854775807) : VP V Ty [lS xs, .s n] Q ↔ Q (.i .i64 (CL (fun y => decide (n = y)) xs)) := by
 refine Aa ?_
 rw [A8 C.c_z171.1 C.c_z171.2]
 simp only [ZK, KU, go_sem, ↓reduceIte]
 refine Ah (by decide) xs.length hl (I := fun k F h => h = [] ∧ A3.tmp F 0 = lS xs ∧ A3.tmp F 1 = .s n ∧ ∀ (j : Nat) (hj : j < xs.length), j < k → ¬ n = xs[j]) ?_ ?_ 0 _ _ (by omega) ?_ ?_ ?_
 ·rintro k F h hk h1 h2 ⟨rfl, h3, h4, h5⟩
  by_cases e : n = xs[k]
  ·subst e
   simp only [KU, go_sem, ↓reduceIte, h1, h2, h3, h4, List.getElem?_eq_getElem hk]
   rw [DY hk (by simp) fun j hj => by simpa using h5 j (by omega) hj]
  ·simp only [KU, go_sem, ↓reduceIte, h1, h2, h3, h4, List.getElem?_eq_getElem hk, e]
   intro j hj hjk
   by_cases e2 : j = k
   ·subst e2; exact e
   ·exact h5 j hj (by omega)
 ·rintro F h ⟨rfl, h3, h4, h5⟩
  simp only [KU, go_sem, ↓reduceIte]
  rw [Ds fun x hx => by obtain ⟨j, hj, e⟩ := List.mem_iff_getElem.1 hx; rw [← e]; simpa using h5 j hj hj]
 all_goals simp only [go_sem, ↓reduceIte]
 all_goals first | rfl | (intro j hj hjk; omega)
theorem DI (xs : List ByteArray) (n : ByteArray) (hl : xs.length < 9223372036854775807) : VP V U1 [lS xs, .s n] Q ↔ Q (.b (xs.any fun y => decide (n = y))) := by
 refine Aa ?_
 rw [A8 C.c_z141.1 C.c_z141.2]
 simp only [Xs, SY, go_sem, ↓reduceIte, E9 C _ _ hl, K9]
theorem Dx (xs : List (BitVec 64)) (hl : xs.length < 9223372036854775807) {g : Nat} {a c : List VV} (ha : Fz a) (hc : Fz c) (p : (BitVec 64) → Bool) (hf : ∀ x, VP V g (a ++ [vW x] ++ c) fun r => r = .b (p x)) :
  VP V Tl [lW xs, .f g a c] Q ↔ Q (.i .i64 (CL p xs)) := by
 refine Aa ?_
 rw [A8 C.c_z164.1 C.c_z164.2]
 simp only [YD, KV, go_sem, ↓reduceIte]
 refine Ah (by decide) xs.length hl (I := fun k F h => h = [] ∧ A3.tmp F 0 = lW xs ∧ A3.tmp F 1 = .f g a c ∧ ∀ (j : Nat) (hj : j < xs.length), j < k → p xs[j] = false) ?_ ?_ 0 _ _ (by omega) ?_ ?_ ?_
 ·rintro k F h hk h1 h2 ⟨rfl, h3, h4, h5⟩
  have hq := fun Q => Aa (hf xs[k]) (Q := Q)
  have hfz := ha.call hc (h := []) (x := [vW xs[k]]) rfl
  cases e : p xs[k] with
  | true =>
   simp only [KV, go_sem, ↓reduceIte, h1, h2, h3, h4, List.getElem?_eq_getElem hk, hfz, hq, e]
   rw [DY hk e fun j hj => h5 j (by omega) hj]
  | false =>
   simp only [KV, go_sem, ↓reduceIte, h1, h2, h3, h4, List.getElem?_eq_getElem hk, hfz, hq, e]
   have hcl : M0 0 (.f g a c) = .f g a c := by
    have h1 : Cm 0 a = true := Fz.bel ha
    have h2 : Cm 0 c = true := Fz.bel hc
    simp [M0, bel, h1, h2]
   simp only [A57, Fz.bel ha, Fz.bel hc, Bool.and_self, cond_true, true_and]
   intro j hj hjk
   by_cases e2 : j = k
   ·subst e2; exact e
   ·exact h5 j hj (by omega)
 ·rintro F h ⟨rfl, h3, h4, h5⟩
  simp only [KV, go_sem, ↓reduceIte]
  rw [Ds fun x hx => by obtain ⟨j, hj, e⟩ := List.mem_iff_getElem.1 hx; rw [← e]; exact h5 j hj hj]
 all_goals simp only [go_sem, ↓reduceIte]
 all_goals first | rfl | (intro j hj hjk; omega)
theorem D9 (xs : List (BitVec 64)) (hl : xs.length < 9223372036854775807) {g : Nat} {a c : List VV} (ha : Fz a) (hc : Fz c) (p : (BitVec 64) → Bool) (hf : ∀ x, VP V g (a ++ [vW x] ++ c) fun r => r = .b (p x)) :
  VP V U0 [lW xs, .f g a c] Q ↔ Q (.b (xs.any p)) := by
 refine Aa ?_
 rw [A8 C.c_z128.1 C.c_z128.2]
 simp only [YQ, S6, go_sem, ↓reduceIte, Dx C xs hl ha hc p hf, Fz.eq ha, Fz.eq hc, K9]
theorem Ez (xs : List Int) (hl : xs.length < 9223372036854775807) {g : Nat} {a c : List VV} (ha : Fz a) (hc : Fz c) (p : Int → Bool) (hf : ∀ x, VP V g (a ++ [.i .i64 x] ++ c) fun r => r = .b (p x)) :
  VP V SG [lI xs, .f g a c] Q ↔ Q (.i .i64 (CL p xs)) := by
 refine Aa ?_
 rw [A8 C.c_z187.1 C.c_z187.2]
 simp only [Yl, KK, go_sem, ↓reduceIte]
 refine Ah (by decide) xs.length hl (I := fun k F h => h = [] ∧ A3.tmp F 0 = lI xs ∧ A3.tmp F 1 = .f g a c ∧ ∀ (j : Nat) (hj : j < xs.length), j < k → p xs[j] = false) ?_ ?_ 0 _ _ (by omega) ?_ ?_ ?_
 ·rintro k F h hk h1 h2 ⟨rfl, h3, h4, h5⟩
  have hq := fun Q => Aa (hf xs[k]) (Q := Q)
  have hfz := ha.call hc (h := []) (x := [.i .i64 xs[k]]) rfl
  cases e : p xs[k] with
  | true =>
   simp only [KK, go_sem, ↓reduceIte, h1, h2, h3, h4, List.getElem?_eq_getElem hk, hfz, hq, e]
   rw [DY hk e fun j hj => h5 j (by omega) hj]
  | false =>
   simp only [KK, go_sem, ↓reduceIte, h1, h2, h3, h4, List.getElem?_eq_getElem hk, hfz, hq, e]
   have hcl : M0 0 (.f g a c) = .f g a c := by
    have h1 : Cm 0 a = true := Fz.bel ha
    have h2 : Cm 0 c = true := Fz.bel hc
    simp [M0, bel, h1, h2]
   simp only [A57, Fz.bel ha, Fz.bel hc, Bool.and_self, cond_true, true_and]
   intro j hj hjk
   by_cases e2 : j = k
   ·subst e2; exact e
   ·exact h5 j hj (by omega)
 ·rintro F h ⟨rfl, h3, h4, h5⟩
  simp only [KK, go_sem, ↓reduceIte]
  rw [Ds fun x hx => by obtain ⟨j, hj, e⟩ := List.mem_iff_getElem.1 hx; rw [← e]; exact h5 j hj hj]
 all_goals simp only [go_sem, ↓reduceIte]
 all_goals first | rfl | (intro j hj hjk; omega)
theorem DP (xs : List Int) (hl : xs.length < 9223372036854775807) {g : Nat} {a c : List VV} (ha : Fz a) (hc : Fz c) (p : Int → Bool) (hf : ∀ x, VP V g (a ++ [.i .i64 x] ++ c) fun r => r = .b (p x)) :
  VP V SP [lI xs, .f g a c] Q ↔ Q (.b (xs.any p)) := by
 refine Aa ?_
 rw [A8 C.c_z173.1 C.c_z173.2]
 simp only [ZL, TO, go_sem, ↓reduceIte, Ez C xs hl ha hc p hf, Fz.eq ha, Fz.eq hc, K9]
theorem Ef (xs : List (List Int)) (hl : xs.length < 9223372036854775807) {g : Nat} {a c : List VV} (ha : Fz a) (hc : Fz c) (p : List Int → Bool) (hf : ∀ x ∈ xs, VP V g (a ++ [lI x] ++ c) fun r => r = .b (p x)) :
  VP V A1Z [.ls (xs.map Kr), .f g a c] Q ↔ Q (.i .i64 (CL p xs)) := by
 refine Aa ?_
 rw [A8 C.c_z50.1 C.c_z50.2]
 simp only [A54, Qg, go_sem, ↓reduceIte]
 refine Ah (by decide) xs.length hl (I := fun k F h => h = [] ∧ A3.tmp F 0 = .ls (xs.map Kr) ∧ A3.tmp F 1 = .f g a c ∧ ∀ (j : Nat) (hj : j < xs.length), j < k → p xs[j] = false) ?_ ?_ 0 _ _ (by omega) ?_ ?_ ?_
 ·rintro k F h hk h1 h2 ⟨rfl, h3, h4, h5⟩
  have hq := fun Q => Aa (hf xs[k] (List.getElem_mem hk)) (Q := Q)
  have hfz := ha.call hc (h := []) (x := [lI (xs[k])]) rfl
  cases e : p xs[k] with
  | true =>
   simp only [Qg, go_sem, ↓reduceIte, h1, h2, h3, h4, List.getElem?_eq_getElem hk, hfz, hq, e]
   rw [DY hk e fun j hj => h5 j (by omega) hj]
  | false =>
   simp only [Qg, go_sem, ↓reduceIte, h1, h2, h3, h4, List.getElem?_eq_getElem hk, hfz, hq, e]
   have hcl : M0 0 (.f g a c) = .f g a c := by
    have h1 : Cm 0 a = true := Fz.bel ha
    have h2 : Cm 0 c = true := Fz.bel hc
    simp [M0, bel, h1, h2]
   simp only [A57, Fz.bel ha, Fz.bel hc, Bool.and_self, cond_true, true_and]
   intro j hj hjk
   by_cases e2 : j = k
   ·subst e2; exact e
   ·exact h5 j hj (by omega)
 ·rintro F h ⟨rfl, h3, h4, h5⟩
  simp only [Qg, go_sem, ↓reduceIte]
  rw [Ds fun x hx => by obtain ⟨j, hj, e⟩ := List.mem_iff_getElem.1 hx; rw [← e]; exact h5 j hj hj]
 all_goals simp only [go_sem, ↓reduceIte]
 all_goals first | rfl | (intro j hj hjk; omega)
theorem Qk (xs ys : List Int) (hl : xs.length < 9223372036854775807) : VP V X7 [lI xs, lI ys] Q ↔ Q (.b (decide (xs = ys))) := by
 refine Aa ?_
 rw [A8 C.c_z53.1 C.c_z53.2]
 by_cases hxy : xs.length = ys.length
 ·simp only [A2k, Ng, go_sem, ↓reduceIte, hxy]
  refine Ah (by decide) ys.length (by omega) (I := fun k F h => h = [] ∧ A3.tmp F 0 = lI xs ∧ A3.tmp F 1 = lI ys ∧ ∀ (j : Nat) (hj : j < xs.length) (hj' : j < ys.length), j < k → xs[j] = ys[j]) ?_ ?_ 0 _ _ (by omega) ?_ ?_ ?_
  ·rintro k F h hk h1 h2 ⟨rfl, h3, h4, h5⟩
   have hk' : k < xs.length := by omega
   by_cases e : xs[k] = ys[k]
   ·simp only [Ng, go_sem, ↓reduceIte, h1, h2, h3, h4, List.getElem?_eq_getElem hk, List.getElem?_eq_getElem hk', e]
    intro j hj hj' hjk
    by_cases e2 : j = k
    ·subst e2; exact e
    ·exact h5 j hj hj' (by omega)
   ·simp only [Ng, go_sem, ↓reduceIte, h1, h2, h3, h4, List.getElem?_eq_getElem hk, List.getElem?_eq_getElem hk', e]
    refine (decide_eq_false ?_).symm
    rintro rfl
    exact e rfl
  ·rintro F h ⟨rfl, h3, h4, h5⟩
   simp only [Ng, go_sem, ↓reduceIte]
   exact (decide_eq_true (List.ext_getElem hxy fun j hj hj' => h5 j hj hj' hj')).symm
  all_goals simp only [go_sem, ↓reduceIte]
  all_goals first | rfl | (intro j hj hj' hjk; omega)
 ·simp only [A2k, Ng, go_sem, ↓reduceIte, Int.natCast_inj, hxy]
  refine (decide_eq_false ?_).symm
  rintro rfl
  exact hxy rfl
end
end Go.AM

namespace Go.AM
open Go Go.Proofs
@[go_sem] theorem A2X {n k : Nat} {f : Nat → BitVec 64} {z : BitVec 64} : ((CD n k f z).map eW).set k [vW (f k)] = (CD n (k + 1) f z).map eW := Lz eW
@[go_sem] theorem Adb {n k : Nat} {f : Nat → Int} {z : Int} : ((CD n k f z).map eI).set k [.i .i64 (f k)] = (CD n (k + 1) f z).map eI := Lz eI
@[go_sem] theorem Adk {α : Type} {n k : Nat} {f : Nat → α} {z : α} : (CD n k f z).take n = CD n k f z := by rw [List.take_of_length_le]; rw [Pl]; exact Nat.le_refl n
attribute [go_sem] Pl List.length_range
@[go_sem] theorem AbB (n : Nat) : (List.range n).take n = List.range n := by rw [List.take_of_length_le]; simp
@[go_sem] theorem Al2 (n : Nat) (w : BitVec 64) : List.replicate n [vW w] = (List.replicate n w).map eW := by simp
@[go_sem] theorem Al1 (n : Nat) (w : Int) : List.replicate n [VV.i .i64 w] = (List.replicate n w).map eI := by simp
abbrev eP (p : Int × Int) : List VV := [.i .i64 p.1, .i .i64 p.2]
abbrev lP (l : List (Int × Int)) : VV := .ls (l.map eP)
@[go_sem] theorem AiC (xs : List (Int × Int)) (x y : Int) : xs.map eP ++ [[.i .i64 x, .i .i64 y]] = (xs ++ [(x, y)]).map eP := by simp
theorem Fz.of {a : List VV} (h : ∀ h d, AR (frz h (d + 3)) a = some (a, [])) : Fz a := h
section
variable {V : Ao} (C : AL V) {Q : VV → Prop}
include C
theorem VU (x all : BitVec 64) : VP V P2 [vW x, .fp [vW all] 0] Q ↔ Q (.b (!decide (x &&& ~~~all = 0#64))) := by
 refine Aa ?_
 rw [A8 C.c_z129.1 C.c_z129.2]
 simp only [ZU, Uz, go_sem, ↓reduceIte, Ku C]
theorem Dn (r : Rows) : VP V W8 [lW r] Q ↔ Q (.b (DJ r)) := by
 refine Aa ?_
 rw [A8 C.c_z83.1 C.c_z83.2]
 by_cases hl : r.length ≤ 64
 ·have hl' : ¬ (64 : Int) < r.length := by omega
  simp only [A15, Xa, go_sem, ↓reduceIte, hl', LL C 0 _ (by omega),
   D9 C r (by omega) (g := P2) (a := []) (c := [.fp [vW (Ek 0 r.length)] 0]) Fz.nil (fun _ _ => rfl) (fun x => !decide (x &&& ~~~(Ek 0 r.length) = 0#64)) (fun x => (VU C _ _).2 rfl)]
  simp only [DJ, hl, go_sem, List.not_any_eq_all_not, Bool.not_not]
 ·have hl' : (64 : Int) < r.length := by omega
  simp only [A15, Xa, go_sem, ↓reduceIte, hl', Bool.true_eq_false]
  simp [DJ, hl]
theorem XN {n : Nat} (hl : n ≤ 1000) {gf : Nat} {a c : List VV} (ha : Fz a) (hc : Fz c) (row : Nat → BitVec 64)
  (hp : ∀ (i : Nat), i < n → VP V gf (a ++ [.i .i64 (i : Nat)] ++ c) fun r => r = vW (row i)) :
  VP V PT [.i .i64 n, .f gf a c] Q ↔ Q (lW ((List.range n).map row)) := by
 refine Aa ?_
 rw [A8 C.c_z117.1 C.c_z117.2]
 have h0 : n * 8 ≤ A5 := by unfold A5; omega
 simp only [Um, HJ, go_sem, ↓reduceIte, h0, Int.le_refl]
 refine Ah (by decide) n (by omega) (I := fun k F h => A3.tmp F 1 = .f gf a c ∧ A3.tmp F 5 = .sl 0 0 0 n ∧ h = [some ⟨Co, 1, 0, false, (CD n k row 0#64).map eW⟩]) ?_ ?_ 0 _ _ (by omega) ?_ ?_ ?_
 ·rintro k F h hk h1 h2 ⟨h3, h4, rfl⟩
  have hq := fun Q => Aa (hp k hk) (Q := Q)
  have hfz := ha.call hc (h := [some ⟨Co, 1, 0, false, (CD n k row 0#64).map eW⟩]) (x := [.i .i64 (k : Nat)]) rfl
  simp only [HJ, go_sem, ↓reduceIte, h1, h2, h3, h4, hk, hfz, hq, JM hk, Fz.bel ha, Fz.bel hc]
 ·rintro F h ⟨h3, h4, rfl⟩
  simp only [HJ, go_sem, ↓reduceIte, h4, Hj]
 all_goals simp only [go_sem, ↓reduceIte]
 all_goals first | rfl | rw [EL]
theorem VI {n : Nat} (hl : n ≤ 1000) {gf : Nat} {a c : List VV} (ha : Fz a) (hc : Fz c) (row : Nat → BitVec 64) (b0 : Nat) {Q' : VV → VH → Prop}
  (hp : ∀ (i : Nat), i < n → VP V gf (a ++ [.i .i64 (i : Nat)] ++ c) fun r => r = vW (row i)) :
  ZT V PT [.i .i64 n, .f gf a c] b0 Q' ↔ Q' (.sl b0 0 0 n) [some ⟨Co, 1, 0, false, ((List.range n).map row).map eW⟩] := by
 refine Mq ?_
 rw [MJ C.c_z117.2]
 have h0 : n * 8 ≤ A5 := by unfold A5; omega
 simp only [Um, HJ, go_sem, ↓reduceIte, h0, Int.le_refl]
 refine Ah (by decide) n (by omega) (I := fun k F h => A3.tmp F 1 = .f gf a c ∧ A3.tmp F 5 = .sl 0 0 0 n ∧ h = [some ⟨Co, 1, 0, false, (CD n k row 0#64).map eW⟩]) ?_ ?_ 0 _ _ (by omega) ?_ ?_ ?_
 ·rintro k F h hk h1 h2 ⟨h3, h4, rfl⟩
  have hq := fun Q => Aa (hp k hk) (Q := Q)
  have hfz := ha.call hc (h := [some ⟨Co, 1, 0, false, (CD n k row 0#64).map eW⟩]) (x := [.i .i64 (k : Nat)]) rfl
  simp only [HJ, go_sem, ↓reduceIte, h1, h2, h3, h4, hk, hfz, hq, JM hk, Fz.bel ha, Fz.bel hc]
 ·rintro F h ⟨h3, h4, rfl⟩
  simp only [HJ, go_sem, ↓reduceIte, h4, Hj, Bf]
  simp
 all_goals simp only [go_sem, ↓reduceIte]
 all_goals first | rfl | rw [EL]
theorem Jr (a b : Rows) : VP V ST [.ag [lW a, lW b]] Q ↔ Q (.b (DJ a && DJ b && decide (a.length = b.length))) := by
 refine Aa ?_
 rw [A8 C.c_z161.1 C.c_z161.2]
 cases hma : DJ a <;> cases hmb : DJ b <;>
  simp only [Xu, Tf, go_sem, ↓reduceIte, Dn C, hma, hmb, Int.natCast_inj]
omit C in
theorem GW {a : Rows} {i : Nat} (h : i < a.length) : a[i]? = some (a.getD i 0#64) := by rw [A8D h, List.getElem?_eq_getElem h]
theorem QJ (a b : Rows) {i : Nat} (hi : i < a.length) (hi' : i < b.length) : VP V P3 [.ag [lW a, lW b], .i .i64 i] Q ↔ Q (vW (a.getD i 0#64 ||| b.getD i 0#64)) := by
 refine Aa ?_
 rw [A8 C.c_z116.1 C.c_z116.2]
 simp only [Z9, S7, go_sem, ↓reduceIte, GW hi, GW hi']
theorem Nv (a b : Rows) {gf : Nat} {fa fc : List VV} (ha : Fz fa) (hc : Fz fc) (row : Nat → BitVec 64)
  (hp : a.length = b.length → a.length ≤ 64 → ∀ (i : Nat), i < a.length → VP V gf (fa ++ [.i .i64 (i : Nat)] ++ fc) fun r => r = vW (row i)) :
  VP V UP [.ag [lW a, lW b], .f gf fa fc] Q ↔ Q (lW (if DJ a && DJ b && decide (a.length = b.length) then (List.range a.length).map row else [])) := by
 refine Aa ?_
 rw [A8 C.c_z115.1 C.c_z115.2]
 cases hm : (DJ a && DJ b && decide (a.length = b.length)) with
 | false => simp only [SW, Q3, go_sem, ↓reduceIte, Jr C, hm, Bool.false_eq_true]
 | true =>
  have hm' := hm
  simp only [Bool.and_eq_true, decide_eq_true_eq] at hm'
  have hl := LM hm'.1.1
  simp only [SW, Q3, go_sem, ↓reduceIte, Jr C, hm, XN C (show a.length ≤ 1000 by omega) ha hc row (fun i hi => hp hm'.2 hl i hi), Fz.eq ha, Fz.eq hc]
theorem A6i (a b : Rows) : VP V A0n [lW a, lW b] Q ↔ Q (lW (orF a b)) := by
 refine Aa ?_
 rw [A8 C.c_z71.1 C.c_z71.2]
 simp only [A6S, A27, go_sem, ↓reduceIte,
  Nv C a b (gf := P3) (fa := [.ag [lW a, lW b]]) (fc := []) (fun _ _ => rfl) Fz.nil (fun i => a.getD i 0#64 ||| b.getD i 0#64) (fun h1 h2 i hi => (QJ C a b hi (by omega)).2 rfl)]
 rfl
theorem A0b (a : Rows) (hl : a.length ≤ 64) (s : BitVec 64) : VP V Sc [lW a, vW s] Q ↔ Q (vW (DK a s)) := by
 refine Aa ?_
 rw [A8 C.c_z167.1 C.c_z167.2]
 simp only [A07, MF, go_sem, ↓reduceIte, LL C 0 _ (by omega), Do C]
 have hlen := Du (s &&& Ek 0 a.length)
 have hmem : ∀ i, i ∈ BO (s &&& Ek 0 a.length) → i < a.length := by
  intro i hi
  have := (Pp hi).2
  rw [BitVec.getLsbD_and, Ek, AF] at this
  simp at this
  omega
 unfold DK
 unfold AK at hlen ⊢
 generalize BO (s &&& Ek 0 a.length) = L at *
 refine Ah (by decide) (L.map fun (i : Nat) => (i : Int)).length (by omega) (I := fun k F h => h = [] ∧ A3.tmp F 0 = lW a ∧ A3.tmp F 13 = lI (L.map fun (i : Nat) => (i : Int)) ∧ A3.tmp F 5 = vW ((L.take k).foldl (fun x i => x ||| a.getD i 0#64) 0#64)) ?_ ?_ 0 _ _ (by omega) ?_ ?_ ?_
 ·rintro k F h hk h2 h3 ⟨rfl, h4, h5, h6⟩
  have hk' : k < L.length := by simpa using hk
  simp only [MF, go_sem, ↓reduceIte, h2, h3, h4, h5, h6, List.getElem?_eq_getElem hk', GW (hmem _ (List.getElem_mem hk'))]
  rw [List.take_succ_eq_append_getElem hk', List.foldl_append, List.foldl_cons, List.foldl_nil]
 ·rintro F h ⟨rfl, h4, h5, h6⟩
  rw [List.length_map, List.take_length] at h6
  simp only [MF, go_sem, ↓reduceIte, h6]
 all_goals simp only [go_sem, ↓reduceIte]
 all_goals rfl
theorem Zb (a : Rows) (hm : DJ a = true) (s : BitVec 64) : VP V Tp [lW a, vW s] Q ↔ Q (vW (DK a s)) := by
 refine Aa ?_
 rw [A8 C.c_z134.1 C.c_z134.2]
 simp only [Yg, TU, go_sem, ↓reduceIte, Dn C, hm, A0b C a (LM hm)]
theorem Kq (a : Rows) (hm : DJ a = true) (s : BitVec 64) : VP V La [lW a, vW s] Q ↔ Q (vW (DK a s)) := by
 refine Aa ?_
 rw [A8 C.c_z114.1 C.c_z114.2]
 simp only [A03, SS, go_sem, ↓reduceIte, Zb C a hm]
theorem QA (a : Rows) (hm : DJ a = true) (s : BitVec 64) : VP V Po [lW a, vW s, .f La [] []] Q ↔ Q (vW (Jl a s)) := by
 refine Aa ?_
 rw [A8 C.c_z113.1 C.c_z113.2]
 simp only [XM, Mf, go_sem, ↓reduceIte]
 unfold VL
 rw [A0]
 refine AI (M := BitVec 64) (I := fun t F h => h = [] ∧ A3.tmp F 0 = lW a ∧ A3.tmp F 1 = vW t ∧ A3.tmp F 2 = .f La [] [] ∧ Jl a t = Jl a s) (μ := fun t => 18446744073709551616 - t.toNat) ?_ s _ _ ⟨rfl, ?_, ?_, ?_, rfl⟩
 ·rintro t F h ⟨rfl, h0, h1, h2, h3⟩
  have hs := Yv a t
  by_cases e : t ||| DK a t = t
  ·rw [if_pos e] at hs
   simp only [Sn, Mf, go_sem, ↓reduceIte, h0, h1, h2, A0, Kq C a hm, e]
   rw [← h3, hs]
  ·rw [if_neg e] at hs
   simp only [Sn, Mf, go_sem, ↓reduceIte, h0, h1, h2, A0, Kq C a hm, e]
   have := Ld e
   have := (t ||| DK a t).isLt
   exact ⟨t ||| DK a t, by omega, rfl, by rw [← h3, hs]⟩
 all_goals simp only [go_sem, ↓reduceIte]
theorem UI (a : Rows) : VP V A1x [lW a] Q ↔ Q (lW (Gq a)) := by
 refine Aa ?_
 rw [A8 C.c_z70.1 C.c_z70.2]
 cases hm : DJ a with
 | false => simp only [A2j, Q5, go_sem, ↓reduceIte, Dn C, hm, Gq, Bool.false_eq_true]
 | true =>
  have hl := LM hm
  have h0 : a.length * 8 ≤ A5 := by unfold A5; omega
  simp only [A2j, Q5, go_sem, ↓reduceIte, Dn C, hm, h0, Int.le_refl]
  refine Ah (by decide) a.length (by omega) (I := fun k F h => A3.tmp F 0 = lW a ∧ A3.tmp F 12 = lW a ∧ A3.tmp F 3 = .sl 0 0 0 a.length ∧ h = [some ⟨Co, 1, 0, false, (CD a.length k (fun i => Jl a (a.getD i 0#64)) 0#64).map eW⟩]) ?_ ?_ 0 _ _ (by omega) ?_ ?_ ?_
  ·rintro k F h hk h1 h2 ⟨h3, h4, h5, rfl⟩
   have hu := A2X (n := a.length) (k := k) (f := fun i => Jl a (a.getD i 0#64)) (z := 0#64)
   simp only [Q5, go_sem, ↓reduceIte, h1, h2, h3, h4, h5, hk, GW hk, QA C a hm, JM hk, hu]
  ·rintro F h ⟨h3, h4, h5, rfl⟩
   simp only [Q5, go_sem, ↓reduceIte, h5, Hj, Gq, hm]
  all_goals simp only [go_sem, ↓reduceIte]
  all_goals first | rfl | rw [EL]
theorem Qj (a : Rows) (s : BitVec 64) {i : Nat} (hi : i < a.length) : VP V Pz [.ag [lW a, vW s], .i .i64 i] Q ↔ Q (vW (if Ck s (i : Int) then a.getD i 0#64 &&& s else 0#64)) := by
 refine Aa ?_
 rw [A8 C.c_z118.1 C.c_z118.2]
 cases hh : Ck s (i : Int) <;> simp only [Xy, Ta, go_sem, ↓reduceIte, AQ C, hh, GW hi, Bool.false_eq_true]
theorem Yx (a : Rows) (s : BitVec 64) : VP V A0e [lW a, vW s] Q ↔ Q (lW (WJ a s)) := by
 refine Aa ?_
 rw [A8 C.c_z72.1 C.c_z72.2]
 cases hm : DJ a with
 | false => simp only [A0k, UY, go_sem, ↓reduceIte, Dn C, hm, WJ, Bool.false_eq_true]
 | true =>
  have hl := LM hm
  simp only [A0k, UY, go_sem, ↓reduceIte, Dn C, hm, WJ,
   VI C (show a.length ≤ 1000 by omega) (gf := Pz) (a := [.ag [lW a, vW s]]) (c := []) (fun _ _ => rfl) Fz.nil (fun (i : Nat) => if Ck s (i : Int) then a.getD i 0#64 &&& s else 0#64) 0 (fun i hi => (Qj C a s hi).2 rfl)]
theorem ZH (n : Nat) (hn : n ≤ 64) (b : Nat) {Q : VV → VH → Prop} : ZT V A1J [.i .i64 n] b Q ↔ Q (.sl b 0 0 n) [some ⟨Co, 1, 0, false, (List.replicate n 0#64).map eW⟩] := by
 refine Mq ?_
 rw [MJ C.c_z42.2]
 have h0 : n * 8 ≤ A5 := by unfold A5; omega
 have h1 : ¬ (64 : Int) < n := by omega
 have h2 : ¬ (n : Int) < 0 := by omega
 simp only [A6V, Qf, go_sem, ↓reduceIte, h0, h1, h2, Int.le_refl, Bf]
 simp
theorem Wf (a : Rows) : VP V WX [lW a] Q ↔ Q (lP (Ce a)) := by
 refine Aa ?_
 rw [A8 C.c_z68.1 C.c_z68.2]
 cases hm : DJ a with
 | false => simp only [A0C, Lj, go_sem, ↓reduceIte, Dn C, hm, Ce, Bool.false_eq_true, Qh]
 | true =>
  have hl := LM hm
  simp only [A0C, Lj, go_sem, ↓reduceIte, Dn C, hm, Qh]
  refine Ah (by decide) a.length (by omega) (I := fun k F h => A3.tmp F 12 = lW a ∧ ∃ l, l = ((List.range k).flatMap (fun (i : Nat) => (AK (a.getD i 0#64)).map fun j => ((i : Int), j))) ∧ A3.tmp F 3 = .sl 0 l.length 0 l.length ∧ h = [some (AP A1l 2 (l.map eP))]) ?_ ?_ 0 _ _ (by omega) ?_ ?_ ?_
  ·rintro k F h hk h1 h2 ⟨h3, l, hl', h4, rfl⟩
   simp only [Lj, go_sem, ↓reduceIte, h1, h2, h3, h4, GW hk, Do C]
   have hll := Du (a.getD k 0#64)
   have hpl := RO a k
   rw [← hl'] at hpl
   refine Ah (by decide) (AK (a.getD k 0#64)).length (by omega) (I := fun m F h => A3.tmp F 14 = .i .i64 k ∧ A3.tmp F 13 = .i .i64 a.length ∧ A3.tmp F 12 = lW a ∧ A3.tmp F 20 = lI (AK (a.getD k 0#64)) ∧ A3.tmp F 4 = .i .i64 k ∧ ∃ l', l' = l ++ ((AK (a.getD k 0#64)).take m).map (fun j => ((k : Int), j)) ∧ A3.tmp F 3 = .sl 0 l'.length 0 l'.length ∧ h = [some (AP A1l 2 (l'.map eP))]) ?_ ?_ 0 _ _ (by omega) ?_ ?_ ?_
   ·rintro m G h hm' j1 j2 ⟨j4, j5, j6, j7, j8, l', hl2, j9, rfl⟩
    have hb : (l'.length + 1) * 16 ≤ A5 := by
     have : l'.length ≤ 10000 := by
      rw [hl2, List.length_append, List.length_map, List.length_take]; omega
     unfold A5; omega
    simp only [Lj, go_sem, ↓reduceIte, j1, j2, j4, j5, j6, j7, j8, j9, List.getElem?_eq_getElem hm', hb]
    refine ⟨_, ?_, by rw [List.length_append]; rfl, rfl⟩
    rw [hl2, List.take_succ_eq_append_getElem hm', List.map_append, List.append_assoc]; rfl
   ·rintro G h ⟨j4, j5, j6, j7, j8, l', hl2, j9, rfl⟩
    simp only [Lj, go_sem, ↓reduceIte, j4, j5, j6, j9]
    refine ⟨_, ?_, rfl, rfl⟩
    rw [hl2, List.take_length, hl', List.flatMap_append]; simp
   all_goals simp only [go_sem, ↓reduceIte, h1, h2, h3, h4]
   all_goals first | rfl | exact ⟨l, by simp, rfl, rfl⟩
  ·rintro F h ⟨h3, l, hl', h4, rfl⟩
   simp only [Lj, go_sem, ↓reduceIte, h4, Ce, hm, ← hl']
  all_goals simp only [go_sem, ↓reduceIte]
  all_goals first | rfl | exact ⟨[], rfl, rfl, rfl⟩
end
end Go.AM

namespace Go.AM
open Go Go.Proofs
theorem A7l {e : Option Nx} (s : BitVec 64) {n : Nat} (h : n < 64) : AY .shr e (Wd s) (.i .u64 n) = some (Wd (s >>> n)) := by
 have h0 : ¬ ((n : Int) < 0) := by omega
 simp only [Wd, AY, ET, if_neg h0, IntKind.bits, Option.some.injEq, AV.i.injEq, true_and, Int.toNat_natCast]
 rw [Nat.min_eq_left (by omega), BitVec.toNat_ushiftRight, Nat.shiftRight_eq_div_pow]
 rw [show ((2 : Int) ^ n) = ((2 ^ n : Nat) : Int) by simp, Int.fdiv_eq_ediv_of_nonneg _ (Int.natCast_nonneg _)]
 rfl
theorem A8F {e : Option Nx} (s : BitVec 64) : AY .rem e (Wd s) (.i .u64 2) = some (Wd (if s.getLsbD 0 then 1#64 else 0#64)) := by
 rw [Wd, A5m (by decide)]
 simp only [Option.some.injEq, Wd, AV.i.injEq, true_and]
 have h0 : s.getLsbD 0 = decide (s.toNat % 2 = 1) := by
  show s.toNat.testBit 0 = _
  simp [Nat.testBit_zero]
 rw [h0]
 have : (s.toNat : Int).tmod 2 = ((s.toNat % 2 : Nat) : Int) := by
  rw [Int.tmod_eq_emod_of_nonneg (Int.natCast_nonneg _)]
  rfl
 rw [this]
 by_cases h : s.toNat % 2 = 1
 ·simp [h]
 ·have : s.toNat % 2 = 0 := by omega
  simp [this]
theorem A8W {e : Option Nx} (s : BitVec 64) {n : Nat} (h : n < 64) : AT .shr e (vW s) (.i .u64 n) = some (vW (s >>> n)) := by
 show (AY .shr e (Wd s) (.i .u64 n)).bind EA = _
 rw [A7l s h]; rfl
theorem A7n {e : Option Nx} (s : BitVec 64) : AT .rem e (vW s) (.i .u64 2) = some (vW (if s.getLsbD 0 then 1#64 else 0#64)) := by
 show (AY .rem e (Wd s) (.i .u64 2)).bind EA = _
 rw [A8F s]; rfl
section
variable {V : Ao} (C : AL V) {Q : VV → Prop}
include C
theorem Qd (s : BitVec 64) (i : Int) : VP V A0u [vW s, .i .i64 i] Q ↔ Q (.b (Ck s i)) := by
 refine Aa ?_
 rw [A8 C.c_z82.1 C.c_z82.2]
 by_cases h0 : i < 0
 ·have : Ck s i = false := by unfold Ck; simp; omega
  simp only [VY, RM, go_sem, ↓reduceIte, h0, this]
 ·by_cases h1 : 63 < i
  ·have : Ck s i = false := by
    unfold Ck
    rw [BitVec.getLsbD_of_ge _ _ (by omega)]
    simp
   simp only [VY, RM, go_sem, ↓reduceIte, h0, h1, this]
  ·obtain ⟨n, rfl⟩ := Int.eq_ofNat_of_zero_le (by omega : 0 ≤ i)
   have hw : IntKind.u64.wrap (n : Int) = n := by rw [Ha]; omega
   have hs : ∀ e, AT .shr e (vW s) (.i .u64 (n : Int)) = some (vW (s >>> n)) := fun e => A8W s (by omega)
   simp only [VY, RM, go_sem, ↓reduceIte, h0, h1, hw, hs, A7n]
   rw [B7, BitVec.getLsbD_ushiftRight, Nat.add_zero]
   cases s.getLsbD n <;> rfl
theorem Kw (s t : BitVec 64) : VP V A9h [vW s, vW t] Q ↔ Q (.b (decide (s ||| t = t))) := by
 refine Aa ?_
 rw [A8 C.c_z9.1 C.c_z9.2]
 simp only [Aat, A9f, go_sem, ↓reduceIte]
theorem UD (n : Nat) (hn : n < 64) : VP V Sm [.i .i64 n] Q ↔ Q (vW (1#64 <<< n)) := by
 refine Aa ?_
 rw [A8 C.c_z109.1 C.c_z109.2]
 simp only [ZA, KG, go_sem, ↓reduceIte]
 refine Am (by decide) n (by omega) (I := fun k F h => h = [] ∧ A3.tmp F 0 = .i .i64 n ∧ A3.tmp F 3 = vW (1#64 <<< k)) ?_ ?_ ?_ 0 _ _ (Nat.zero_le _) ?_ ?_
 ·rintro k F h hk h1 ⟨rfl, h2, h3⟩
  simp only [KG, go_sem, ↓reduceIte, h1, h2, h3]
 ·rintro k F h hk h1 ⟨rfl, h2, h3⟩
  simp only [KG, go_sem, ↓reduceIte, h1, h2, h3]
  congr 1
  apply BitVec.eq_of_toNat_eq
  rw [BitVec.toNat_add, BitVec.toNat_shiftLeft, BitVec.toNat_shiftLeft]
  simp only [Nat.shiftLeft_eq]
  have : (1#64).toNat = 1 := rfl
  rw [this, Nat.pow_succ]
  omega
 ·rintro F h ⟨rfl, h2, h3⟩
  simp only [KG, go_sem, ↓reduceIte, h3]
 all_goals simp only [go_sem, ↓reduceIte]
 all_goals rfl
theorem Qa (s : BitVec 64) (i : Int) : VP V A2e [vW s, .i .i64 i] Q ↔ Q (vW (s ||| CX i)) := by
 refine Aa ?_
 rw [A8 C.c_z63.1 C.c_z63.2]
 by_cases h0 : i < 0
 ·have : CX i = 0#64 := by unfold CX; rw [if_neg (by omega)]
  simp only [Ru, Qx, go_sem, ↓reduceIte, h0, this, BitVec.or_zero]
 ·by_cases h1 : 63 < i
  ·have : CX i = 0#64 := by unfold CX; rw [if_neg (by omega)]
   simp only [Ru, Qx, go_sem, ↓reduceIte, h0, h1, this, BitVec.or_zero]
  ·obtain ⟨n, rfl⟩ := Int.eq_ofNat_of_zero_le (by omega : 0 ≤ i)
   have h1f : CX (n : Int) = 1#64 <<< n := by unfold CX; rw [if_pos (by omega)]; rfl
   cases hb : Ck s n with
   | true =>
    simp only [Ru, Qx, go_sem, ↓reduceIte, h0, h1, Qd C, hb]
    congr 1
    apply BZ
    intro j hj
    rw [BitVec.getLsbD_or, CR]
    by_cases e : j = n
    ·subst e; rw [B7] at hb; simp [hb]
    ·have : ¬ ((j : Int) = n) := by omega
     simp [this]
   | false =>
    simp only [Ru, Qx, go_sem, ↓reduceIte, h0, h1, Qd C, hb, UD C n (by omega)]
    congr 1
    rw [h1f]
    apply BitVec.add_eq_or_of_and_eq_zero
    rw [← h1f, Nk]
    rw [B7] at hb
    simp [hb]
theorem Rh (xs : List Int) (hl : xs.length < 9223372036854775807) : VP V A28 [lI xs] Q ↔ Q (vW (D6 xs)) := by
 refine Aa ?_
 rw [A8 C.c_z38.1 C.c_z38.2]
 simp only [A4X, PS, go_sem, ↓reduceIte]
 refine Am (by decide) xs.length hl (I := fun k F h => h = [] ∧ A3.tmp F 0 = lI xs ∧ A3.tmp F 3 = vW (D6 (xs.take k))) ?_ ?_ ?_ 0 _ _ (Nat.zero_le _) ?_ ?_
 ·rintro k F h hk h1 ⟨rfl, h2, h3⟩
  simp only [PS, go_sem, ↓reduceIte, h1, h2, h3]
 ·rintro k F h hk h1 ⟨rfl, h2, h3⟩
  simp only [PS, go_sem, ↓reduceIte, h1, h2, h3, List.getElem?_eq_getElem hk, Qa C]
  rw [List.take_succ_eq_append_getElem hk]
  simp only [D6, List.foldl_append, List.foldl_cons, List.foldl_nil]
 ·rintro F h ⟨rfl, h2, h3⟩
  rw [List.take_length] at h3
  simp only [PS, go_sem, ↓reduceIte, h3]
 all_goals simp only [go_sem, ↓reduceIte]
 all_goals rfl
omit C in
theorem A3s (s t : BitVec 64) : decide (s ||| t = t) = decide (s &&& ~~~t = 0#64) := by
 apply decide_eq_decide.2
 rw [Aaa]
 constructor
 ·intro h
  apply BZ
  intro j hj
  cases hs : s.getLsbD j with
  | false => simp [hs]
  | true => simp [hs, h j hs]
 ·intro h j hj
  have := congrArg (fun w : BitVec 64 => w.getLsbD j) h
  have hlt : j < 64 := BitVec.lt_of_getLsbD hj
  simp [hj, hlt] at this
  exact this
end
end Go.AM

namespace Go.AM
open Go Go.Proofs
section
variable {V : Ao} (C : AL V) {Q : VV → Prop}
include C
theorem QN (xs : List Int) (hl : xs.length < 9223372036854775807) (n : Int) : VP V X1 [lI xs, .i .i64 n] Q ↔ Q (.i .i64 (CL (fun y => decide (n = y)) xs)) := by
 refine Aa ?_
 rw [A8 C.c_z40.1 C.c_z40.2]
 simp only [A4P, N1, go_sem, ↓reduceIte]
 refine Am (by decide) xs.length hl (I := fun k F h => h = [] ∧ A3.tmp F 0 = lI xs ∧ A3.tmp F 1 = .i .i64 n ∧ ∀ (j : Nat) (hj : j < xs.length), j < k → ¬ n = xs[j]) ?_ ?_ ?_ 0 _ _ (Nat.zero_le _) ?_ ?_
 ·rintro k F h hk h1 ⟨rfl, h2, h3, h4⟩
  simp only [N1, go_sem, ↓reduceIte, h1, h2, h3]
  exact h4
 ·rintro k F h hk h1 ⟨rfl, h2, h3, h4⟩
  by_cases e : xs[k] = n
  ·simp only [N1, go_sem, ↓reduceIte, h1, h2, h3, List.getElem?_eq_getElem hk, e]
   rw [DY hk (by simp [e]) fun j hj => by simpa using h4 j _ hj]
  ·simp only [N1, go_sem, ↓reduceIte, h1, h2, h3, List.getElem?_eq_getElem hk, e]
   intro j hj hjk
   by_cases e2 : j = k
   ·subst e2; exact fun e3 => e e3.symm
   ·exact h4 j hj (by omega)
 ·rintro F h ⟨rfl, h2, h3, h4⟩
  simp only [N1, go_sem, ↓reduceIte]
  rw [Ds fun x hx => by obtain ⟨j, hj, e⟩ := List.mem_iff_getElem.1 hx; rw [← e]; simpa using h4 j hj hj]
 all_goals simp only [go_sem, ↓reduceIte]
 all_goals first | rfl | (intro j hj hjk; omega)
theorem Ar (t : A4) (n : Int) : VP V A22 [vT t, .i .i64 n] Q ↔ Q (.b (Ch t n)) := by
 refine Aa ?_
 rw [A8 C.c_z84.1 C.c_z84.2]
 cases h0 : decide (0 ≤ n) <;> simp only [A4C, A0Q, go_sem, ↓reduceIte, h0, Ch]
theorem QH (n : Ax) : VP V A1v [vN n] Q ↔ Q (.b (Cu n)) := by
 refine Aa ?_
 rw [A8 C.c_z86.1 C.c_z86.2]
 cases c0 : decide (0 ≤ n.thread) <;> cases c1 : decide (n.kind = 3) <;> cases c2 : decide (n.mode = 0) <;>
  simp only [A6R, A1d, go_sem, ↓reduceIte, c0, c1, c2, Cu]
theorem J4 (t : A4) (hu : KQ t) (a : Int) {b : Nat} (hb : b < t.nodes.length) : VP V TG [vT t, .i .i64 a, .i .i64 b] Q ↔ Q (.b (BA t a b)) := by
 refine Aa ?_
 rw [A8 C.c_z108.1 C.c_z108.2]
 simp only [XW, KI, go_sem, ↓reduceIte, A6 hb]
 unfold VL
 rw [A0]
 refine AI (M := Int) (I := fun x F h => h = [] ∧ A3.tmp F 3 = .fp (eT t) 0 ∧ A3.tmp F 1 = .i .i64 a ∧ A3.tmp F 7 = .i .i64 x ∧ x < t.nodes.length ∧ Kh t a t.nodes.length x = BA t a b) (μ := fun x => (x + 1).toNat) ?_ (t.at b).up _ _ ⟨rfl, ?_, ?_, ?_, ?_, rfl⟩
 ·rintro x F h ⟨rfl, j1, j2, j3, j4, j5⟩
  have hfuel : ∀ y : Int, y < t.nodes.length → Kh t a (t.nodes.length + 1) y = Kh t a t.nodes.length y := fun y hy => RK hu a _ y hy hy
  by_cases c0 : 0 ≤ x
  ·obtain ⟨m, rfl⟩ := Int.eq_ofNat_of_zero_le c0
   have hm : m < t.nodes.length := by omega
   have hstep := hfuel (m : Int) j4
   rw [Kh, if_neg (by omega)] at hstep
   by_cases c1 : (m : Int) = a
   ·rw [if_pos c1] at hstep
    subst c1
    simp only [NI, KI, go_sem, ↓reduceIte, j1, j2, j3, A0]
    rw [← j5, ← hstep]
   ·rw [if_neg c1, Int.toNat_natCast] at hstep
    have hup := hu m hm
    simp only [NI, KI, go_sem, ↓reduceIte, j1, j2, j3, c1, A0, A6 hm]
    exact ⟨_, by omega, rfl, by omega, by rw [hstep, j5]⟩
  ·have hstep := hfuel x j4
   rw [Kh, if_pos (by omega)] at hstep
   simp only [NI, KI, go_sem, ↓reduceIte, j1, j2, j3, c0]
   rw [← j5, ← hstep]
 ·simp only [go_sem, ↓reduceIte]
 ·simp only [go_sem, ↓reduceIte]
 ·simp only [go_sem, ↓reduceIte]
 ·have := hu b hb; omega
set_option maxHeartbeats 1000000 in
theorem Ns (t : A4) (hu : KQ t) (a b : Int) : VP V A1K [vT t, .i .i64 a, .i .i64 b] Q ↔ Q (.b (Bl t a b)) := by
 refine Aa ?_
 rw [A8 C.c_z87.1 C.c_z87.2]
 cases ha : Ch t a with
 | false => simp only [Rz, PO, go_sem, ↓reduceIte, Ar C, ha, Bl]
 | true =>
  cases hb : Ch t b with
  | false => simp only [Rz, PO, go_sem, ↓reduceIte, Ar C, ha, hb, Bl]
  | true =>
   obtain ⟨m, rfl, hm⟩ := Aq ha
   obtain ⟨n, rfl, hn⟩ := Aq hb
   by_cases e : (m : Int) = n
   ·simp only [Rz, PO, go_sem, ↓reduceIte, Ar C, ha, hb, Bl, e]
   ·cases c0 : decide (0 ≤ (t.at m).thread) <;> cases c1 : decide ((t.at m).thread = (t.at n).thread) <;> cases c2 : BA t (m : Int) n <;>
     simp only [Rz, PO, go_sem, ↓reduceIte, Ar C, ha, hb, Bl, e, A6 hm, A6 hn, c0, c1, c2, J4 C t hu _ hn, J4 C t hu _ hm]
end
end Go.AM

namespace Go.AM
open Go Go.Proofs
theorem EU {k : Nat} (h0 : 0 < k) (h : k < 9223372036854775807) : IntKind.i64.wrap ((k : Int) - 1) = ((k - 1 : Nat) : Int) := by rw [AC (by omega) (by omega)]; omega
section
variable {V : Ao} (C : AL V) {Q : VV → Prop}
include C
theorem Al (xs : List Int) (hl : xs.length < 9223372036854775807) (n : Int) : VP V X1 [lI xs, .i .i64 n] Q ↔ Q (.i .i64 (Hz xs n)) := QN C xs hl n
theorem QR (t : A4) (ht : t.nodes.length ≤ 1000) : VP V A1a [vT t] Q ↔ Q (vW (L5 t)) := by
 refine Aa ?_
 rw [A8 C.c_z85.1 C.c_z85.2]
 simp only [A6p, MR, go_sem, ↓reduceIte]
 refine Am (by decide) t.nodes.length (by omega) (I := fun k F h => h = [] ∧ A3.tmp F 1 = .fp (eT t) 0 ∧ A3.tmp F 3 = vW (Bw fun i => decide (i < k) && decide ((t.at i).up < 0))) ?_ ?_ ?_ 0 _ _ (Nat.zero_le _) ?_ ?_
 ·rintro k F h hk p1 ⟨rfl, p2, p3⟩
  simp only [MR, go_sem, ↓reduceIte, p1, p2, p3]
 ·rintro k F h hk p1 ⟨rfl, p2, p3⟩
  by_cases e : (t.at k).up < 0
  ·simp only [MR, go_sem, ↓reduceIte, p1, p2, p3, A6 hk, e, Qa C]
   by_cases h64 : k < 64
   ·rw [Pb _ _ h64]
    congr 1
    apply BN
    intro j hj
    by_cases e2 : j = k
    ·subst e2; simp [e]
    ·have : (j < k + 1) ↔ (j < k) := by omega
     simp [this, e2]
   ·have : CX (k : Int) = 0#64 := by unfold CX; rw [if_neg (by omega)]
    rw [this, BitVec.or_zero]
    congr 1
    apply BN
    intro j hj
    have : (j < k + 1) ↔ (j < k) := by omega
    simp [this]
  ·simp only [MR, go_sem, ↓reduceIte, p1, p2, p3, A6 hk, e]
   congr 1
   apply BN
   intro j hj
   by_cases e2 : j = k
   ·subst e2; simp [e]
   ·have : (j < k + 1) ↔ (j < k) := by omega
    simp [this]
 ·rintro F h ⟨rfl, p2, p3⟩
  simp only [MR, go_sem, ↓reduceIte, p3, L5]
 all_goals simp only [go_sem, ↓reduceIte]
 all_goals first | rfl | (rw [← GV]; congr 1; apply BN; intro j hj; simp)
set_option maxHeartbeats 1000000 in
theorem R2 (t : A4) (ht : t.nodes.length ≤ 1000) (l : List Int) (hl : l.length ≤ 1000) : VP V A1f [vT t, lI l] Q ↔ Q (.b (BT t l)) := by
 refine Aa ?_
 rw [A8 C.c_z39.1 C.c_z39.2]
 simp only [A6b, HS, go_sem, ↓reduceIte]
 refine Am (by decide) l.length (by omega) (I := fun k F h => h = [] ∧ A3.tmp F 1 = lI l ∧ A3.tmp F 2 = .fp (eT t) 0 ∧ ∀ j, j < k → BR t l j = true) ?_ ?_ ?_ 0 _ _ (Nat.zero_le _) ?_ ?_
 ·rintro k F h hk p1 ⟨rfl, p2, p3, p4⟩
  simp only [HS, go_sem, ↓reduceIte, p1, p2, p3]
  exact p4
 ·rintro k F h hk p1 ⟨rfl, p2, p3, p4⟩
  have bad : BR t l k = false → false = BT t l := fun h => by rw [BT, Bj hk h]; rfl
  have good : BR t l k = true → ∀ j, j < k + 1 → BR t l j = true := fun h j hj => by
   by_cases e : j = k
   ·rw [e]; exact h
   ·exact p4 j (by omega)
  cases c0 : Ch t (l.getD k 0) with
  | false =>
   simp only [HS, go_sem, ↓reduceIte, p1, p2, p3, Ay hk, Ar C, c0]
   exact bad (by rw [BR, c0]; rfl)
  | true =>
   obtain ⟨n, hn, hn'⟩ := Aq c0
   have hup : BR t l k = (CS l k && (decide ((t.at n).up < 0) || BB l (t.at n).up)) := by
    unfold BR
    rw [c0, hn, Int.toNat_natCast, Bool.true_and]
   rw [hn] at c0
   by_cases z : k = 0
   ·subst z
    have hr : CS l 0 = true := by simp [CS]
    rw [hr, Bool.true_and] at hup
    have z0 : ¬ (0 : Int) < ((0 : Nat) : Int) := by omega
    by_cases u0 : 0 ≤ (t.at n).up
    ·have u1 : ¬ (t.at n).up < 0 := by omega
     rw [decide_eq_false u1, Bool.false_or] at hup
     cases u2 : BB l (t.at n).up <;> rw [u2] at hup <;>
      simp only [HS, go_sem, ↓reduceIte, p1, p2, p3, Ay hk, Ar C, c0, z0, hn, A6 hn', u0, Al C l (by omega), Cb, u2]
     ·exact bad hup
     ·exact good hup
    ·have u1 : (t.at n).up < 0 := by omega
     rw [decide_eq_true u1, Bool.true_or] at hup
     simp only [HS, go_sem, ↓reduceIte, p1, p2, p3, Ay hk, Ar C, c0, z0, hn, A6 hn', u0]
     exact good hup
   ·have z0 : (0 : Int) < (k : Int) := by omega
    have zw := EU (show 0 < k by omega) (by omega)
    have hk1 : k - 1 < l.length := by omega
    have hr : CS l k = !decide ((n : Int) ≤ l.getD (k - 1) 0) := by
     unfold CS
     rw [decide_eq_false z, Bool.false_or, hn]
     by_cases c : (n : Int) ≤ l.getD (k - 1) 0
     ·rw [decide_eq_true c, decide_eq_false (by omega)]; rfl
     ·rw [decide_eq_false c, decide_eq_true (by omega)]; rfl
    cases c1 : decide ((n : Int) ≤ l.getD (k - 1) 0) with
    | true =>
     rw [c1] at hr
     rw [hr] at hup
     simp only [HS, go_sem, ↓reduceIte, p1, p2, p3, Ay hk, Ar C, c0, z0, zw, Ay hk1, hn, c1]
     exact bad hup
    | false =>
     rw [c1] at hr
     rw [hr] at hup
     simp only [Bool.not_false, Bool.true_and] at hup
     by_cases u0 : 0 ≤ (t.at n).up
     ·have u1 : ¬ (t.at n).up < 0 := by omega
      rw [decide_eq_false u1, Bool.false_or] at hup
      cases u2 : BB l (t.at n).up <;> rw [u2] at hup <;>
       simp only [HS, go_sem, ↓reduceIte, p1, p2, p3, Ay hk, Ar C, c0, z0, zw, Ay hk1, hn, c1, A6 hn', u0, Al C l (by omega), Cb, u2]
      ·exact bad hup
      ·exact good hup
     ·have u1 : (t.at n).up < 0 := by omega
      rw [decide_eq_true u1, Bool.true_or] at hup
      simp only [HS, go_sem, ↓reduceIte, p1, p2, p3, Ay hk, Ar C, c0, z0, zw, Ay hk1, hn, c1, A6 hn', u0]
      exact good hup
 ·rintro F h ⟨rfl, p2, p3, p4⟩
  simp only [HS, go_sem, ↓reduceIte, p2, p3, QR C t ht, Rh C l (by omega), Kw C]
  rw [BT, Bk p4]; rfl
 all_goals simp only [go_sem, ↓reduceIte]
 all_goals first | rfl | (intro j hj; omega)
set_option maxHeartbeats 4000000 in
theorem QQ (t : A4) (hu : KQ t) (l has : List Int) (hl : l.length ≤ 1000) (hh : has.length ≤ 1000) (hv : ∀ n ∈ has, Ch t n = true) (loc : Int) : VP V A0X [vT t, lI l, lI has, .i .i64 loc] Q ↔ Q (.b (Db t l has loc)) := by
  refine Aa ?_
  rw [A8 C.c_z41.1 C.c_z41.2]
  by_cases z : l.length = 0
  · have z' : (l.length : Int) = 0 := by omega
    simp only [A1L, Eg, go_sem, ↓reduceIte, z']
    simp [Db, z]
  have z' : ¬ (l.length : Int) = 0 := by omega
  simp only [A1L, Eg, go_sem, ↓reduceIte, z']
  refine Am (by decide) l.length (by omega) (I := fun k F h => h = [] ∧ A3.tmp F 1 = lI l ∧ A3.tmp F 2 = lI has ∧ A3.tmp F 3 = .i .i64 loc ∧ A3.tmp F 4 = .fp (eT t) 0 ∧ ∀ j, j < k → By t l has loc j = true) ?_ ?_ ?_ 0 _ _ (Nat.zero_le _) ?_ ?_
  · rintro k F h hk p1 ⟨rfl, p2, p3, p4, p5, p6⟩
    simp only [Eg, go_sem, ↓reduceIte, p1, p2, p3, p4, p5]
    exact p6
  · rintro k F h hk p1 ⟨rfl, p2, p3, p4, p5, p6⟩
    have bad : By t l has loc k = false → false = Db t l has loc := fun h => by rw [Db, Bj hk h]; simp
    have good : By t l has loc k = true → ∀ j, j < k + 1 → By t l has loc j = true := fun h j hj => by
      by_cases e : j = k
      · rw [e]; exact h
      · exact p6 j (by omega)
    cases c0 : BB has (l.getD k 0) with
    | false =>
      simp only [Eg, go_sem, ↓reduceIte, p1, p2, p3, p4, p5, Ay hk, Al C has (by omega), Cb, c0]
      exact bad (by rw [By, c0]; rfl)
    | true =>
      obtain ⟨n, hn, hn'⟩ := Aq (hv _ (Ag.1 c0))
      have hcls : By t l has loc k = (CS l k && (decide ((t.at n).kind = 3) && decide ((t.at n).loc = loc)) && decide (0 ≤ (t.at n).thread) && (List.range k).all fun j => AH t (l.getD k 0) (l.getD j 0)) := by
        unfold By JH
        rw [c0, hn, Int.toNat_natCast, Bool.true_and]
      have hris : CS l k = (decide (k = 0) || decide (l.getD (k - 1) 0 < (n : Int))) := by rw [CS, hn]
      rw [hn] at c0
      have tail : ∀ (hr : CS l k = true) (hx1 : decide ((t.at n).kind = 3) = true) (hx2 : decide ((t.at n).loc = loc) = true) (hx3 : decide ((t.at n).thread < 0) = false) (G : A3) (Q' : Ex → A3 → VH → Prop)
          (g1 : A3.tmp G 1 = lI l) (g2 : A3.tmp G 2 = lI has) (g3 : A3.tmp G 3 = .i .i64 loc) (g4 : A3.tmp G 4 = .fp (eT t) 0) (g9 : A3.tmp G 9 = .i .i64 k) (g10 : A3.tmp G 10 = .p 0 0 0 0) (g11 : A3.tmp G 11 = .i .i64 0)
          (q1 : ∀ G' h', A3.tmp G' 1 = lI l → A3.tmp G' 2 = lI has → A3.tmp G' 3 = .i .i64 loc → A3.tmp G' 4 = .fp (eT t) 0 → A3.tmp G' 9 = .i .i64 k → By t l has loc k = true → Q' .norm G' h') (q2 : ∀ G' h', A3.tmp G' 8 = .b false → By t l has loc k = false → Q' .ret G' h'),
          VL V Eg 2 A5e G [some ⟨BY, 0, 0, false, [eN (t.at n)]⟩] Q' := by
        intro hr hx1 hx2 hx3 G Q' g1 g2 g3 g4 g9 g10 g11 q1 q2
        have hx3' : decide (0 ≤ (t.at n).thread) = true := by simp at hx3 ⊢; omega
        rw [hr, hx1, hx2, hx3'] at hcls
        simp only [Bool.and_self, Bool.true_and] at hcls
        refine Am (by decide) k (by omega) (I := fun j F h => h = [some ⟨BY, 0, 0, false, [eN (t.at n)]⟩] ∧ A3.tmp F 1 = lI l ∧ A3.tmp F 2 = lI has ∧ A3.tmp F 3 = .i .i64 loc ∧ A3.tmp F 4 = .fp (eT t) 0 ∧ A3.tmp F 9 = .i .i64 k ∧ A3.tmp F 10 = .p 0 0 0 0 ∧ ∀ i, i < j → AH t (l.getD k 0) (l.getD i 0) = true) ?_ ?_ ?_ 0 _ _ (Nat.zero_le _) g11 ⟨rfl, g1, g2, g3, g4, g9, g10, fun i hi => by omega⟩
        · rintro j F h hj r1 ⟨rfl, r2, r3, r4, r5, r6, r7, r8⟩
          simp only [Eg, go_sem, ↓reduceIte, r1, r2, r3, r4, r5, r6, r7]
          exact r8
        · rintro j F h hj r1 ⟨rfl, r2, r3, r4, r5, r6, r7, r8⟩
          have hjl : j < l.length := by omega
          have c1 : BB has (l.getD j 0) = true := by
            have := p6 j hj
            unfold By at this
            simp only [Bool.and_eq_true] at this
            exact this.1.1.1.1
          obtain ⟨n2, hn2, hn2'⟩ := Aq (hv _ (Ag.1 c1))
          have hsc : AH t (l.getD k 0) (l.getD j 0) = (Cu (t.at n) && Cu (t.at n2) && decide ((t.at n).val = (t.at n2).val) && Bl t n n2) := by
            unfold AH; rw [hn, hn2, Int.toNat_natCast, Int.toNat_natCast]
          have bad2 : AH t (l.getD k 0) (l.getD j 0) = false → By t l has loc k = false := fun h => by rw [hcls]; exact Bj hj h
          have good2 : AH t (l.getD k 0) (l.getD j 0) = true → ∀ i, i < j + 1 → AH t (l.getD k 0) (l.getD i 0) = true := fun h i hi => by
            by_cases e : i = j
            · rw [e]; exact h
            · exact r8 i (by omega)
          cases y1 : Cu (t.at n) <;> cases y2 : Cu (t.at n2) <;> cases y3 : decide ((t.at n).val = (t.at n2).val) <;> cases y4 : Bl t n n2 <;> rw [y1, y2, y3, y4] at hsc <;>
            simp only [Eg, go_sem, ↓reduceIte, r1, r2, r3, r4, r5, r6, r7, Ay hk, Ay hjl, hn, hn2, A6 hn2', QH C, Ns C t hu, y1, y2, y3, y4]
          all_goals first
            | exact q2 _ _ (by simp only [go_sem, ↓reduceIte]) (bad2 hsc)
            | (have := good2 hsc; rw [hn] at this; exact this)
        · rintro F h ⟨rfl, r2, r3, r4, r5, r6, r7, r8⟩
          exact q1 _ _ r2 r3 r4 r5 r6 (by rw [hcls]; exact Bk r8)
      have zb : (k = 0 ∧ decide ((0 : Int) < (k : Int)) = false) ∨ (0 < k ∧ decide ((0 : Int) < (k : Int)) = true) := by
        rcases Nat.eq_zero_or_pos k with h | h
        · exact .inl ⟨h, by simp [h]⟩
        · exact .inr ⟨h, by simp; omega⟩
      have hk1 : k - 1 < l.length := by omega
      rcases zb with ⟨zk, z0⟩ | ⟨zk, z0⟩
      · have hr : CS l k = true := by rw [hris, zk]; rfl
        simp only [Eg, go_sem, ↓reduceIte, p1, p2, p3, p4, p5, Ay hk, Al C has (by omega), Cb, hn, c0, z0, A6 hn']
        repeat' first
          | (refine Bi (fun hx => ?_) (fun hx => ?_) <;> simp only [Eg, go_sem, ↓reduceIte, p1, p2, p3, p4, p5, hx])
          | (refine AX (fun hx => ?_) (fun hx => ?_) <;> simp only [Eg, go_sem, ↓reduceIte, p1, p2, p3, p4, p5, hx])
        all_goals first
          | exact bad (by rw [hcls]; simp_all)
          | (refine tail hr (by simp_all) (by simp_all) (by assumption) _ _ ?_ ?_ ?_ ?_ ?_ ?_ ?_ ?_ ?_
             all_goals try simp only [go_sem, ↓reduceIte, p1, p2, p3, p4, p5]
             · intro G' e1 e2 e3 e4 e5 e6
               simp only [e1, e2, e3, e4, e5, go_sem]
               exact good e6
             · intro G' h' e1 e2
               simp only [e1, go_sem, bad e2])
      · have zw := EU zk (by omega)
        simp only [Eg, go_sem, ↓reduceIte, p1, p2, p3, p4, p5, Ay hk, Ay hk1, Al C has (by omega), Cb, hn, c0, z0, zw, A6 hn']
        repeat' first
          | (refine Bi (fun hx => ?_) (fun hx => ?_) <;> simp only [Eg, go_sem, ↓reduceIte, p1, p2, p3, p4, p5, Ay hk, hn, hx, A6 hn'])
          | (refine AX (fun hx => ?_) (fun hx => ?_) <;> simp only [Eg, go_sem, ↓reduceIte, p1, p2, p3, p4, p5, Ay hk, hn, hx, A6 hn'])
        all_goals first
          | exact bad (by rw [hcls, hris]; simp_all; try omega)
          | (refine tail (by rw [hris]; simp_all) (by simp_all) (by simp_all) (by assumption) _ _ ?_ ?_ ?_ ?_ ?_ ?_ ?_ ?_ ?_
             all_goals try simp only [go_sem, ↓reduceIte, p1, p2, p3, p4, p5]
             · intro G' e1 e2 e3 e4 e5 e6
               simp only [e1, e2, e3, e4, e5, go_sem]
               exact good e6
             · intro G' h' e1 e2
               simp only [e1, go_sem, bad e2])
  · rintro F h ⟨rfl, p2, p3, p4, p5, p6⟩
    simp only [Eg, go_sem, ↓reduceIte]
    rw [Db, Bk p6]; simp [z]
  all_goals simp only [go_sem, ↓reduceIte]
  all_goals first | rfl | (intro j hj; omega)
end
end Go.AM

namespace Go.AM
open Go Go.Proofs
abbrev eLk (t : A4) (a : Int) : List VV := [.i .i64 t.vals, lS t.locs, .ls (t.regs.map HU), .ls (t.nodes.map eN), .i .i64 a]
abbrev LK (t : A4) (a : Int) : Option VO := some ⟨Ug, 0, 0, false, [eLk t a]⟩
@[go_sem] theorem Alc {α : Type} (r s : List α) : (r ++ s)[r.length]? = s[0]? := by
 rw [List.getElem?_append_right (Nat.le_refl _), Nat.sub_self]
@[go_sem] theorem Ak2 {α : Type} (r s : List α) (k : Nat) : (r ++ s)[r.length + k]? = s[k]? := by
 rw [List.getElem?_append_right (Nat.le_add_right _ _), Nat.add_sub_cancel_left]
@[go_sem] theorem Alt {α : Type} (r s : List α) (x : α) : (r ++ s).set r.length x = r ++ s.set 0 x := by
 rw [List.set_append_right _ _ (Nat.le_refl _), Nat.sub_self]
@[go_sem] theorem AlF {α : Type} (r s : List α) (k : Nat) (x : α) : (r ++ s).set (r.length + k) x = r ++ s.set k x := by
 rw [List.set_append_right _ _ (Nat.le_add_right _ _), Nat.add_sub_cancel_left]
@[go_sem] theorem Ad8 {α : Type} (r s : List α) : (r ++ s).take r.length = r := by simp
@[go_sem] theorem AdF {α : Type} (r s : List α) (k : Nat) : (r ++ s).take (r.length + k) = r ++ s.take k := by rw [List.take_append, List.take_of_length_le (Nat.le_add_right _ _), Nat.add_sub_cancel_left]
@[go_sem] theorem Agc (L : Nat) (r s s' : VH) : KW L (r ++ s) (r ++ s') = KW L s s' := by
 induction r with
 | nil => rfl
 | cons x r ih => simp only [List.cons_append, Xk, ih, true_or, true_and]
@[go_sem] theorem AeV (L : Nat) (r s' : VH) : KW L r (r ++ s') = True := UX L r s'
@[go_sem] theorem dz0 : decide ((0 : Int) < ((0 : Nat) : Int)) = false := rfl
@[go_sem] theorem Al4 (n : Nat) : decide (0 < n + 1) = true := by simp
@[go_sem] theorem Al8 (n : Nat) : decide (n < n + 1) = true := by simp
@[go_sem] theorem Alv (n : Nat) : decide (n < n + 1 + 1) = true := by simp; omega
@[go_sem] theorem Al5 (n : Nat) : decide (n < n + 1 + 1 + 1) = true := by simp; omega
@[go_sem] theorem Alf (n : Nat) : decide (n < n + 1 + 1 + 1 + 1) = true := by simp; omega
@[go_sem] theorem AiR (n : Nat) : decide (1 < n + 1 + 1) = true := by rw [decide_eq_true_iff]; omega
@[go_sem] theorem AjJ (n : Nat) : decide (1 < n + 1 + 1 + 1) = true := by rw [decide_eq_true_iff]; omega
@[go_sem] theorem AhJ (n : Nat) : decide (1 < n + 1 + 1 + 1 + 1) = true := by rw [decide_eq_true_iff]; omega
@[go_sem] theorem Ak8 (n : Nat) : decide (1 < n + 1 + 1 + 1 + 1 + 1) = true := by rw [decide_eq_true_iff]; omega
@[go_sem] theorem Aib (n : Nat) : decide (1 < n + 1 + 1 + 1 + 1 + 1 + 1) = true := by rw [decide_eq_true_iff]; omega
@[go_sem] theorem Ajg (n : Nat) : decide (1 < n + 1 + 1 + 1 + 1 + 1 + 1 + 1) = true := by rw [decide_eq_true_iff]; omega
@[go_sem] theorem Aj3 (n : Nat) : decide (1 < n + 1 + 1 + 1 + 1 + 1 + 1 + 1 + 1) = true := by rw [decide_eq_true_iff]; omega
@[go_sem] theorem AiA (n : Nat) : decide (2 < n + 1 + 1 + 1) = true := by rw [decide_eq_true_iff]; omega
@[go_sem] theorem Aj4 (n : Nat) : decide (2 < n + 1 + 1 + 1 + 1) = true := by rw [decide_eq_true_iff]; omega
@[go_sem] theorem AhC (n : Nat) : decide (2 < n + 1 + 1 + 1 + 1 + 1) = true := by rw [decide_eq_true_iff]; omega
@[go_sem] theorem Aim (n : Nat) : decide (2 < n + 1 + 1 + 1 + 1 + 1 + 1) = true := by rw [decide_eq_true_iff]; omega
@[go_sem] theorem Ajh (n : Nat) : decide (2 < n + 1 + 1 + 1 + 1 + 1 + 1 + 1) = true := by rw [decide_eq_true_iff]; omega
@[go_sem] theorem AjH (n : Nat) : decide (2 < n + 1 + 1 + 1 + 1 + 1 + 1 + 1 + 1) = true := by rw [decide_eq_true_iff]; omega
@[go_sem] theorem Ak0 (n : Nat) : decide (3 < n + 1 + 1 + 1 + 1) = true := by rw [decide_eq_true_iff]; omega
@[go_sem] theorem AjI (n : Nat) : decide (3 < n + 1 + 1 + 1 + 1 + 1) = true := by rw [decide_eq_true_iff]; omega
@[go_sem] theorem Ai3 (n : Nat) : decide (3 < n + 1 + 1 + 1 + 1 + 1 + 1) = true := by rw [decide_eq_true_iff]; omega
@[go_sem] theorem Ak4 (n : Nat) : decide (3 < n + 1 + 1 + 1 + 1 + 1 + 1 + 1) = true := by rw [decide_eq_true_iff]; omega
@[go_sem] theorem Aho (n : Nat) : decide (3 < n + 1 + 1 + 1 + 1 + 1 + 1 + 1 + 1) = true := by rw [decide_eq_true_iff]; omega
@[go_sem] theorem AiM (n : Nat) : decide (4 < n + 1 + 1 + 1 + 1 + 1) = true := by rw [decide_eq_true_iff]; omega
@[go_sem] theorem AiY (n : Nat) : decide (4 < n + 1 + 1 + 1 + 1 + 1 + 1) = true := by rw [decide_eq_true_iff]; omega
@[go_sem] theorem Aix (n : Nat) : decide (4 < n + 1 + 1 + 1 + 1 + 1 + 1 + 1) = true := by rw [decide_eq_true_iff]; omega
@[go_sem] theorem AhS (n : Nat) : decide (4 < n + 1 + 1 + 1 + 1 + 1 + 1 + 1 + 1) = true := by rw [decide_eq_true_iff]; omega
@[go_sem] theorem AjQ (n : Nat) : decide (5 < n + 1 + 1 + 1 + 1 + 1 + 1) = true := by rw [decide_eq_true_iff]; omega
@[go_sem] theorem AjO (n : Nat) : decide (5 < n + 1 + 1 + 1 + 1 + 1 + 1 + 1) = true := by rw [decide_eq_true_iff]; omega
@[go_sem] theorem AhF (n : Nat) : decide (5 < n + 1 + 1 + 1 + 1 + 1 + 1 + 1 + 1) = true := by rw [decide_eq_true_iff]; omega
@[go_sem] theorem AiK (n : Nat) : decide (6 < n + 1 + 1 + 1 + 1 + 1 + 1 + 1) = true := by rw [decide_eq_true_iff]; omega
@[go_sem] theorem Ai8 (n : Nat) : decide (6 < n + 1 + 1 + 1 + 1 + 1 + 1 + 1 + 1) = true := by rw [decide_eq_true_iff]; omega
attribute [go_sem] Option.isSome_some List.cons_append List.append_assoc List.nil_append
theorem JN {xs : List (List ByteArray)} {k : Nat} (h : k < xs.length) : xs[k]? = some (xs.getD k []) := by
 rw [List.getD_eq_getElem?_getD, List.getElem?_eq_getElem h]; rfl
theorem Nu {xs : List ByteArray} {k : Nat} (h : k < xs.length) : xs[k]? = some xs[k] := List.getElem?_eq_getElem h
section
variable {V : Ao} (C : AL V) {Q : VV → Prop}
include C
theorem N5 (l : List ByteArray) (hl : l.length ≤ 1000) (hn : l.Nodup) : VP V A0s [lS l] Q ↔ Q (.b false) := by
 refine Aa ?_
 rw [A8 C.c_z96.1 C.c_z96.2]
 simp only [A5R, RP, go_sem, ↓reduceIte]
 refine Ah (by decide) l.length (by omega) (I := fun k F h => h = [] ∧ A3.tmp F 5 = lS l ∧ A3.tmp F 0 = lS l) ?_ ?_ 0 _ _ (Nat.zero_le _) ?_ ?_ ?_
 ·rintro k F h hk h1 h2 ⟨rfl, h3, h4⟩
  have hx : ((l.take k).any fun y => decide (l[k] = y)) = false := by
   rw [List.any_eq_false]
   intro y hy e
   have e' : l[k] = y := by simpa using e
   obtain ⟨j, hj, ej⟩ := List.mem_iff_getElem.1 hy
   rw [List.getElem_take] at ej
   rw [List.length_take] at hj
   have := (List.getElem_inj hn).1 (ej.trans e'.symm)
   omega
  have hk' : k ≤ l.length := by omega
  simp only [RP, go_sem, ↓reduceIte, h1, h2, h3, h4, Nu hk, hk', DI C (l.take k) _ (by simp; omega), hx, Int.toNat_natCast]
 ·rintro F h ⟨rfl, h3, h4⟩
  simp only [RP, go_sem, ↓reduceIte]
 all_goals simp only [go_sem, ↓reduceIte]
 all_goals rfl
theorem GB (t : A4) (a n : Int) : VP V Tu [.fp (eLk t a) 0, .i .i64 n] Q ↔ Q (.b (H8 t n)) := by
 refine Aa ?_
 rw [A8 C.c_z142.1 C.c_z142.2]
 unfold H8
 cases c0 : decide (0 ≤ n) <;> simp only [Y1, T9, go_sem, ↓reduceIte, c0]
theorem JZ (t : A4) (a n : Int) : VP V U2 [.fp (eLk t a) 0, .i .i64 n] Q ↔ Q (.b (Jt t n)) := by
 refine Aa ?_
 rw [A8 C.c_z188.1 C.c_z188.2]
 unfold Jt
 cases c0 : decide (0 ≤ n) <;> simp only [Yp, Ut, go_sem, ↓reduceIte, c0]
theorem E8 (t : A4) (a u : Nat) (hu : u < t.nodes.length) : VP V S8 [.fp (eLk t a) 0, .i .i64 u] Q ↔ Q (.b (BE t a u)) := by
 refine Aa ?_
 rw [A8 C.c_z172.1 C.c_z172.2]
 unfold BE
 by_cases ha : a < t.nodes.length
 ·have ha' : (a : Int) < t.nodes.length := by omega
  cases c0 : decide ((t.at a).up = u) <;> simp only [Uc, Qr, go_sem, ↓reduceIte, ha, ha', A6 ha, A6 hu, c0, Int.toNat_natCast]
 ·have ha' : ¬ (a : Int) < t.nodes.length := by omega
  simp only [Uc, Qr, go_sem, ↓reduceIte, ha, ha']
theorem YE (t : A4) (a n : Int) : VP V Pn [.i .i64 n, .fp [.fp (eLk t a) 0] 0] Q ↔ Q (.b (!H8 t n)) := by
 refine Aa ?_
 rw [A8 C.c_z174.1 C.c_z174.2]
 simp only [Yt, Te, go_sem, ↓reduceIte, GB C]
/-- What the call on a node does. -/
def Aap (V : Ao) (t : A4) (u e : Nat) : Prop := ∀ (a : Int) (r : VH), Hl V TV [.p 0 0 0 0, .i .i64 u] (LK t a :: r) fun v h => v = .b true ∧ h = LK t e :: r
theorem WL (t : A4) (hn : t.nodes.length ≤ 64) (u e : Nat) (hu : u + 1 < t.nodes.length) (ha : DD t u = true) (hb : Aap V t (u + 1) e) (r : VH) :
  Hl V TQ [.p 0 0 0 0, .i .i64 u] (LK t ((u + 1 : Nat) : Int) :: r) fun v h => v = .b true ∧ h = LK t e :: r := by
 rw [Da C.h_z175]
 have hu0 : u < t.nodes.length := by omega
 have hq := fun (r : VH) Q => Hu (hb ((u + 1 : Nat) : Int) r) (Q := Q)
 unfold DD at ha
 simp only [Bool.or_eq_true, Bool.and_eq_true, decide_eq_true_eq] at ha
 rcases ha with ⟨⟨⟨⟨⟨h1, h2⟩, h3⟩, h4⟩, h5⟩, h6⟩ | ⟨⟨⟨h1, h2⟩, h3⟩, h4⟩
 ·have h4' : (t.at (u + 1)).rmw = false := by simpa using h4
  have h5' : 0 ≤ (t.at (u + 1)).mode := by omega
  have h7 : ¬ (t.at (u + 1)).mode = 0 := by omega
  simp only [P7, K7, go_sem, ↓reduceIte, A6 hu, A6 hu0, Int.toNat_natCast, h1, h2, h3, h4', h5', h6, h7, hq, A0]
 ·have h1' : ¬ (t.at (u + 1)).kind = 4 := by omega
  cases hr : (t.at (u + 1)).rmw with
  | true =>
   rw [hr] at h4
   simp only [if_true, Bool.and_eq_true, decide_eq_true_eq] at h4
   obtain ⟨⟨⟨⟨g1, g2⟩, g3⟩, g4⟩, g5⟩ := h4
   simp only [P7, K7, go_sem, ↓reduceIte, A6 hu, A6 hu0, Int.toNat_natCast, h1, h1', hr, JZ C, GB C, h2, h3, g1, g2, g3, g4, g5, hq, A0, Int.reduceEq]
  | false =>
   rw [hr] at h4
   simp only [Bool.false_eq_true, if_false, Bool.or_eq_true, decide_eq_true_eq] at h4
   have g1 : 0 ≤ (t.at (u + 1)).mode := by omega
   have g2 : (t.at (u + 1)).mode ≤ 4 := by omega
   rcases h4 with (h4 | h4) | h4 <;>
   simp only [P7, K7, go_sem, ↓reduceIte, A6 hu, A6 hu0, Int.toNat_natCast, h1, h1', hr, JZ C, GB C, h2, h3, g1, g2, h4, hq, A0, Int.reduceEq, Int.reduceLE]
theorem Y5 (t : A4) (hn : t.nodes.length ≤ 64) (u e : Nat) (hu : u < t.nodes.length) (vals : Nat) (k : Nat → Nat) (loc mode : Int) (hv : t.vals = vals) (hv0 : 0 < vals) (hv1 : vals ≤ 4) (hk0 : k 0 = u + 1) (hke : k vals = e) (hl : Jt t loc = true)
  (hs : ∀ v, v < vals → BE t (k v) u = true ∧ EX t (k v) v loc mode = true ∧ Aap V t (k v) (k (v + 1)))
  (hm : (mode = 0 ∨ mode = 1 ∨ mode = 4) ∨ (0 ≤ mode ∧ mode ≤ 4 ∧ ∃ v, v < vals ∧ JK t (k v) = true)) (r : VH) :
  Hl V Uh [.p 0 0 0 0, .i .i64 u] (LK t ((u + 1 : Nat) : Int) :: r) fun v h => v = .b true ∧ h = LK t e :: r := by
 rw [Da C.h_z176]
 have h0 := hs 0 hv0
 rw [hk0] at h0
 obtain ⟨c0, s0, _⟩ := h0
 have hu1 : u + 1 < t.nodes.length := by
  unfold BE at c0
  simp only [Bool.and_eq_true, decide_eq_true_eq] at c0
  omega
 simp only [EX, Bool.and_eq_true, decide_eq_true_eq] at s0
 obtain ⟨⟨⟨⟨g1, g2⟩, g3⟩, g4⟩, g5⟩ := s0
 simp only [Yu, Gm, go_sem, ↓reduceIte, A6 hu1, Int.toNat_natCast, hv]
 refine Ah (by decide) vals (by omega) (I := fun v F h => h = LK t (k v) :: (r ++ [some ⟨BY, 0, 0, false, [eN (t.at (u + 1))]⟩]) ∧ A3.tmp F 0 = .p 0 0 0 0 ∧ A3.tmp F 1 = .i .i64 u ∧ A3.tmp F 5 = .p (r.length + 1) 0 0 0 ∧ A3.tmp F 6 = .b ((List.range v).any fun j => JK t (k j))) ?_ ?_ 0 _ _ (Nat.zero_le _) ?_ ?_ ?_
 ·rintro v F h hv2 p1 p2 ⟨rfl, p3, p4, p5, p6⟩
  obtain ⟨c1, s1, b1⟩ := hs v hv2
  have hq := fun (r : VH) Q => Hu (b1 (k v) r) (Q := Q)
  have hkv : k v < t.nodes.length := by
   unfold BE at c1
   simp only [Bool.and_eq_true, decide_eq_true_eq] at c1
   omega
  simp only [EX, Bool.and_eq_true, decide_eq_true_eq] at s1
  obtain ⟨⟨⟨⟨q1, q2⟩, q3⟩, q4⟩, q5⟩ := s1
  have q5' : (t.at (k v)).rmw = false := by simpa using q5
  have w1 := G4 (show k v < 9223372036854775807 by omega)
  have hany : ((List.range (v + 1)).any fun j => JK t (k j)) = (((List.range v).any fun j => JK t (k j)) || JK t (k v)) := by
   rw [List.range_succ, List.any_append]; simp
  rw [hany]
  clear hany
  generalize ((List.range v).any fun j => JK t (k j)) = B at *
  by_cases z1 : k v + 1 < t.nodes.length
  ·have z1' : ((k v + 1 : Nat) : Int) < (t.nodes.length : Int) := by omega
   have z2 : decide (k v + 1 < t.nodes.length) = true := by simp [z1]
   unfold JK
   rw [z2]
   cases z3 : decide ((t.at (k v + 1)).up = (k v : Int)) <;> cases B <;>
    simp only [UE, Gm, go_sem, ↓reduceIte, p1, p2, p3, p4, p5, p6, E8 C t _ u hu, c1, A6 hkv, A6 hu1, A6 z1, Int.toNat_natCast, q1, q2, q3, q4, q5', g1, g3, g4, hq, w1, z1', z3, List.length_append]
  ·have z1' : ¬ ((k v + 1 : Nat) : Int) < (t.nodes.length : Int) := by omega
   have z2 : decide (k v + 1 < t.nodes.length) = false := by simp [z1]
   unfold JK
   rw [z2]
   simp only [UE, Gm, go_sem, ↓reduceIte, p1, p2, p3, p4, p5, p6, E8 C t _ u hu, c1, A6 hkv, A6 hu1, Int.toNat_natCast, q1, q2, q3, q4, q5', g1, g3, g4, hq, w1, z1']
 ·rintro F h ⟨rfl, p3, p4, p5, p6⟩
  rw [hke]
  rcases hm with hm | ⟨hm1, hm2, v, hv2, hm3⟩
  ·rcases hm with (hm | hm | hm) <;>
   simp only [Gm, go_sem, ↓reduceIte, p3, p4, p5, p6, g3, g4, hm, JZ C, hl, Int.reduceEq]
  ·have hany : ((List.range vals).any fun j => JK t (k j)) = true := Vz hv2 hm3
   rw [hany] at p6
   cases m0 : decide (mode = 0) <;> cases m1 : decide (mode = 1) <;> cases m2 : decide (mode = 4) <;>
   simp only [Gm, go_sem, ↓reduceIte, p3, p4, p5, p6, g3, g4, hm1, hm2, m0, m1, m2, JZ C, hl, Int.reduceEq]
 all_goals simp only [go_sem, ↓reduceIte]
 ·rfl
 ·simp only [hk0, eN, g1, g2, g3, g4, List.range_zero, List.any_nil, go_sem]
theorem QE (t : A4) (hn : t.nodes.length ≤ 64) (h4 : t.vals ≤ 4) (hr : ∀ l ∈ t.regs, l.length ≤ 1000) : ∀ n u e, KC t n u e → Aap V t u e := by
 intro n
 induction n with
 | zero => intro u e h; exact h.elim
 | succ n ih =>
  intro u e hb a r
  obtain ⟨⟨hu, ht0, ht1⟩, hb⟩ := hb
  rw [Da C.h_z143]
  have w1 := G4 (show u < 9223372036854775807 by omega)
  obtain ⟨th, hth⟩ := Int.eq_ofNat_of_zero_le ht0
  have ht1' : th < t.regs.length := by omega
  rcases hb with ⟨c0, e0, rfl⟩ | ⟨c0, f0, r0, a0, b0⟩ | ⟨c0, f0, r0, vals, k, loc, mode, hv, hv0, hk0, hke, hl, hs, hm⟩
  ·simp only [A2h, Bool.and_eq_true, decide_eq_true_eq] at e0
   obtain ⟨⟨g1, g2⟩, g3⟩ := e0
   rw [hth, Int.toNat_natCast] at g2
   have hall : ((t.at u).regs.any fun v => !H8 t v) = false := by
    rw [List.any_eq_false]
    intro x hx
    rw [List.all_eq_true] at g3
    simp [g3 x hx]
   have hrl : (t.regs.getD th []).length ≤ 1000 := by
    by_cases z : th < t.regs.length
    ·exact hr _ (Au z)
    ·omega
   have hcf := fun (a : Int) Q => DP C (t.at u).regs (by omega) (g := Pn) (a := []) (c := [.fp [.fp (eLk t a) 0] 0]) Fz.nil (fun _ _ => rfl) (fun x => !H8 t x) (fun x => (YE C t a x).2 rfl) (Q := Q)
   simp only [Q4, K3, go_sem, ↓reduceIte, w1, E8 C t _ u hu, c0, A6 hu, Int.toNat_natCast, g1, g2, hth, JN ht1', hcf, hall]
  ·have hu1 : u + 1 < t.nodes.length := by
    unfold BE at c0
    simp only [Bool.and_eq_true, decide_eq_true_eq] at c0
    omega
   have hq := fun (r : VH) Q => Hu (WL C t hn u e hu1 a0 (ih _ _ b0) r) (Q := Q)
   have hk2 : ¬ (t.at (u + 1)).kind = 2 := by
    unfold DD at a0
    simp only [Bool.or_eq_true, Bool.and_eq_true, decide_eq_true_eq] at a0
    rcases a0 with ⟨⟨⟨⟨⟨h1, h2⟩, h3⟩, h4⟩, h5⟩, h6⟩ | ⟨⟨⟨h1, h2⟩, h3⟩, h4⟩ <;> omega
   simp only [Q4, K3, go_sem, ↓reduceIte, w1, E8 C t _ u hu, c0, A6 hu, A6 hu1, Int.toNat_natCast, f0, r0, hk2, hq]
  ·have h0 := hs 0 hv0
   rw [hk0] at h0
   have hu1 : u + 1 < t.nodes.length := by
    unfold BE at c0
    simp only [Bool.and_eq_true, decide_eq_true_eq] at c0
    omega
   have hk2 : (t.at (u + 1)).kind = 2 := by
    have := h0.2.1
    simp only [EX, Bool.and_eq_true, decide_eq_true_eq] at this
    exact this.1.1.1.1
   have hq := fun (r : VH) Q => Hu (Y5 C t hn u e hu vals k loc mode hv hv0 (by omega) hk0 hke hl (fun v hv => ⟨(hs v hv).1, (hs v hv).2.1, ih _ _ (hs v hv).2.2⟩) hm r) (Q := Q)
   simp only [Q4, K3, go_sem, ↓reduceIte, w1, E8 C t _ u hu, c0, A6 hu, A6 hu1, Int.toNat_natCast, f0, r0, hk2, hq]
theorem Xd (t : A4) (hn : t.nodes.length ≤ 64) (hl : t.locs.length ≤ t.nodes.length) (hi : ∀ i, i < t.locs.length → JR t i = true) (r : VH) :
  Hl V A1V [.p 0 0 0 0] (LK t 0 :: r) fun v h => v = .b true ∧ h = LK t t.locs.length :: r := by
 rw [Da C.h_z97]
 simp only [A6C, MM, go_sem, ↓reduceIte]
 unfold VL
 rw [A0]
 refine AI (M := Nat) (I := fun k F h => k ≤ t.locs.length ∧ h = LK t (k : Int) :: r ∧ A3.tmp F 0 = .p 0 0 0 0) (μ := fun k => t.locs.length - k) ?_ 0 _ _ ⟨Nat.zero_le _, rfl, ?_⟩
 ·rintro k F h ⟨hk, rfl, p1⟩
  by_cases hkl : k < t.locs.length
  ·have hkl' : (k : Int) < t.locs.length := by omega
   have hkn : k < t.nodes.length := by omega
   have hkn' : ¬ (t.nodes.length : Int) ≤ k := by omega
   have w1 := G4 (show k < 9223372036854775807 by omega)
   have := hi k hkl
   unfold JR at this
   simp only [Bool.and_eq_true, decide_eq_true_eq] at this
   obtain ⟨⟨⟨⟨⟨⟨⟨⟨g1, g2⟩, g3⟩, g4⟩, g5⟩, g6⟩, g7⟩, g8⟩, g9⟩ := this
   have g7' : (t.at k).rmw = false := by simpa using g7
   have g8' : (t.at k).fin = false := by simpa using g8
   simp only [Ys, MM, go_sem, ↓reduceIte, p1, hkl', hkn', A6 hkn, Int.toNat_natCast, g1, g2, g3, g4, g5, g6, g7', g8', g9, GB C, w1, A0]
   exact ⟨k + 1, by omega, by omega, rfl⟩
  ·have hke : k = t.locs.length := by omega
   subst hke
   simp only [Ys, MM, go_sem, ↓reduceIte, p1, A0]
 all_goals simp only [go_sem, ↓reduceIte]
theorem QL (t : A4) (hn : t.nodes.length ≤ 64) (h4 : t.vals ≤ 4) (hr : ∀ l ∈ t.regs, l.length ≤ 1000) (hr4 : t.regs.length ≤ 4) (s : Nat → Nat) (hs0 : s 0 = t.locs.length) (hse : s t.regs.length = t.nodes.length)
  (hs : ∀ i, i < t.regs.length → Gu t (s i) i = true ∧ ∃ n, KC t n (s i) (s (i + 1))) (r : VH) :
  Hl V A1T [.p 0 0 0 0] (LK t t.locs.length :: r) fun v h => v = .b true ∧ h = LK t t.nodes.length :: r := by
 rw [Da C.h_z98]
 simp only [A4w, Mn, go_sem, ↓reduceIte]
 refine Ah (by decide) t.regs.length (by omega) (I := fun i F h => h = LK t (s i) :: r ∧ A3.tmp F 0 = .p 0 0 0 0) ?_ ?_ 0 _ _ (Nat.zero_le _) ?_ ?_ ?_
 ·rintro i F h hi h1 h2 ⟨rfl, p1⟩
  obtain ⟨b0, nn, b1⟩ := hs i hi
  have hu : s i < t.nodes.length := by
   cases nn with
   | zero => exact b1.elim
   | succ nn => exact b1.1.1
  have hu' : ¬ (t.nodes.length : Int) ≤ s i := by omega
  have hq := fun (r : VH) Q => Hu (QE C t hn h4 hr _ _ _ b1 (s i) r) (Q := Q)
  unfold Gu at b0
  simp only [Bool.and_eq_true, decide_eq_true_eq] at b0
  obtain ⟨⟨⟨⟨⟨⟨g1, g2⟩, g3⟩, g4⟩, g5⟩, g6⟩, g7⟩ := b0
  have g7' : (t.at (s i)).rmw = false := by simpa using g7
  simp only [A6f, Mn, go_sem, ↓reduceIte, h1, h2, p1, hu', A6 hu, Int.toNat_natCast, g1, g2, g3, g4, g5, g6, g7', hq]
 ·rintro F h ⟨rfl, p1⟩
  rw [hse]
  simp only [Mn, go_sem, ↓reduceIte, p1]
 all_goals simp only [go_sem, ↓reduceIte, hs0]
 all_goals rfl
theorem Mt (t : A4) (h : Aj t) : VP V Xi [vT t] Q ↔ Q (.b true) := by
 refine Aa ?_
 rw [A8 C.c_z43.1 C.c_z43.2]
 have a1 := h.v2
 have a2 := h.v4
 have a3 := h.l4
 have a4 := h.n64
 have a5 := h.r1
 have a6 := h.r4
 have b1 : ¬ t.vals < 2 := by omega
 have b2 : ¬ 4 < t.vals := by omega
 have b3 : ¬ (4 : Int) < t.locs.length := by omega
 have b4 : ¬ (64 : Int) < t.nodes.length := by omega
 have b5 : ¬ (t.regs.length : Int) < 1 := by omega
 have b6 : ¬ (4 : Int) < t.regs.length := by omega
 obtain ⟨s, s0, se, hs⟩ := h.thr
 have hrl : ∀ l ∈ t.regs, l.length ≤ 1000 := fun l hl => by have := (h.rl l hl).1; omega
 have q1 := fun (r : VH) Q => Hu (Xd C t h.n64 h.first.1 h.first.2 r) (Q := Q)
 have q2 := fun (r : VH) Q => Hu (QL C t h.n64 h.v4 hrl h.r4 s s0 se hs r) (Q := Q)
 simp only [A4O, RX, go_sem, ↓reduceIte, b1, b2, b3, b4, b5, b6, N5 C t.locs (by omega) h.ln]
 refine Ah (by decide) t.regs.length (by omega) (I := fun i F h => h = [] ∧ A3.tmp F 1 = .fp (eT t) 0 ∧ A3.tmp F 42 = .ls (t.regs.map HU)) ?_ ?_ 0 _ _ (Nat.zero_le _) ?_ ?_ ?_
 ·rintro i F hh hi h1 h2 ⟨rfl, p1, p2⟩
  have hm := h.rl _ (Au (d := []) hi)
  have hb : ¬ (4 : Int) < (t.regs.getD i []).length := by omega
  simp only [A6T, RX, go_sem, ↓reduceIte, h1, h2, p1, p2, JN hi, hb, N5 C (t.regs.getD i []) (by omega) hm.2]
 ·rintro F hh ⟨rfl, p1, p2⟩
  simp only [RX, go_sem, ↓reduceIte, p1, q1, q2]
 all_goals simp only [go_sem, ↓reduceIte]
 all_goals rfl
end
end Go.AM

namespace Go.AM
open Go Go.Proofs
attribute [go_sem] Int.reduceLE Int.reduceLT Int.reduceEq Int.reduceToNat Int.reduceNeg Int.le_refl Int.toNat_natCast Int.cast_ofNat_Int
section
variable {V : Ao} (C : AL V) {Q : VV → Prop}
include C
theorem RA (v n : Int) (h1 : 1 ≤ n) (h2 : n ≤ 2147483648) : VP V Sk [.i .i64 v, .i .i64 n] Q ↔ Q (.i .i64 (v % n)) := by
 refine Aa ?_
 rw [A8 C.c_z156.1 C.c_z156.2]
 have c1 : ¬ n < 1 := by omega
 have c2 : ¬ 2147483648 < n := by omega
 obtain ⟨t1, t2⟩ := A7w (v := v) (show 0 < n by omega)
 by_cases c : v.tmod n < 0
 ·obtain ⟨t3, t4⟩ := t1 c
  have w : IntKind.i64.wrap (v.tmod n + n) = v % n := by rw [AC (by omega) (by omega), t3]
  simp only [Sx, Pd, go_sem, ↓reduceIte, c1, c2, EQ (show n ≠ 0 by omega), c, w]
 ·have c' : ¬ v % n < 0 := by rw [← t2 c]; exact c
  simp only [Sx, Pd, go_sem, ↓reduceIte, c1, c2, EQ (show n ≠ 0 by omega), t2 c, c']
theorem DF (xs : List ByteArray) (n : ByteArray) (hl : xs.length ≤ 1000) : VP V U4 [lS xs, .s n] Q ↔ Q (.i .i64 (CL (fun y => decide (n = y)) xs)) := by
 refine Aa ?_
 rw [A8 C.c_z153.1 C.c_z153.2]
 simp only [ZG, JS, go_sem, ↓reduceIte]
 refine Am (by decide) xs.length (by omega) (I := fun k F h => h = [] ∧ A3.tmp F 0 = lS xs ∧ A3.tmp F 1 = .s n ∧ ∀ (j : Nat) (hj : j < xs.length), j < k → ¬ n = xs[j]) ?_ ?_ ?_ 0 _ _ (Nat.zero_le _) ?_ ?_
 ·rintro k F h hk p1 ⟨rfl, p2, p3, p4⟩
  simp only [JS, go_sem, ↓reduceIte, p1, p2, p3]
  exact p4
 ·rintro k F h hk p1 ⟨rfl, p2, p3, p4⟩
  by_cases e : xs[k] = n
  ·simp only [JS, go_sem, ↓reduceIte, p1, p2, p3, Nu hk, e]
   rw [DY hk (by simp [e]) fun j hj => by simpa using p4 j (by omega) hj]
  ·simp only [JS, go_sem, ↓reduceIte, p1, p2, p3, Nu hk, e]
   intro j hj hjk
   by_cases e2 : j = k
   ·subst e2; exact fun h => e h.symm
   ·exact p4 j hj (by omega)
 ·rintro F h ⟨rfl, p2, p3, p4⟩
  simp only [JS, go_sem, ↓reduceIte]
  rw [Ds fun x hx => by obtain ⟨j, hj, e⟩ := List.mem_iff_getElem.1 hx; rw [← e]; simpa using p4 j hj hj]
 all_goals simp only [go_sem, ↓reduceIte]
 all_goals first | rfl | (intro j hj hjk; omega)
theorem CB (xs : List ByteArray) (n : ByteArray) (hl : xs.length ≤ 1000) : VP V SD [lS xs, .s n] Q ↔ Q (.b (xs.any fun y => decide (n = y))) := by
 refine Aa ?_
 rw [A8 C.c_z147.1 C.c_z147.2]
 simp only [Yz, Tt, go_sem, ↓reduceIte, DF C xs n hl, K9]
theorem Sq (r : List VV) (h : GE r) : VP V TM [.ag r] fun x => ∃ k : Int, x = .i .i64 k := by
 induction h with
 | mk op n nm kids hl hk ih =>
  rw [A8 C.c_z193.1 C.c_z193.2]
  simp only [XG, GR, go_sem, ↓reduceIte]
  by_cases ho : op = 1 ∨ op = 2
  ·unfold VL
   rw [A0]
   refine AI (M := Nat) (I := fun k F h => h = [] ∧ A3.tmp F 1 = .fp [.i .i64 op, .i .i64 n, .s nm, .ls kids] 0 ∧ A3.tmp F 4 = .i .i64 0 ∧ A3.tmp F 3 = .i .i64 0) (μ := fun k => k) ?_ 0 _ _ ⟨rfl, ?_, ?_, ?_⟩
   ·rintro k F h ⟨rfl, p1, p2, p3⟩
    cases c0 : decide ((0 : Int) < kids.length) <;> rcases ho with ho | ho <;>
     simp only [A1t, GR, go_sem, ↓reduceIte, p1, p2, p3, c0, ho, Int.reduceEq, A0] <;> exact ⟨_, rfl⟩
   all_goals simp only [go_sem, ↓reduceIte]
  ·have o1 : ¬ op = 1 := fun h => ho (.inl h)
   have o2 : ¬ op = 2 := fun h => ho (.inr h)
   refine Am (by decide) kids.length (by omega) (I := fun k F h => h = [] ∧ A3.tmp F 1 = .fp [.i .i64 op, .i .i64 n, .s nm, .ls kids] 0 ∧ ∃ d : Int, A3.tmp F 3 = .i .i64 d) ?_ ?_ ?_ 0 _ _ (Nat.zero_le _) ?_ ?_
   ·rintro k F h hk' p1 ⟨rfl, p2, d, p3⟩
    cases c0 : decide ((k : Int) < kids.length)
    ·have : decide (k < kids.length) = false := by simp at c0 ⊢; omega
     simp only [GR, go_sem, ↓reduceIte, p1, p2, p3, o1, o2, c0, this]
     try exact ⟨d, rfl⟩
    ·have : decide (k < kids.length) = true := by simp at c0 ⊢; omega
     simp only [GR, go_sem, ↓reduceIte, p1, p2, p3, o1, o2, c0, this]
     try exact ⟨d, rfl⟩
   ·rintro k F h hk' p1 ⟨rfl, p2, d, p3⟩
    have hg := hk _ (List.getElem_mem hk')
    simp only [GR, go_sem, ↓reduceIte, p1, p2, p3, QM hk', hg.len, hg.take, hg.frz]
    refine (ih _ (List.getElem_mem hk')).mono ?_
    rintro _ ⟨e, rfl⟩
    cases c0 : decide (d < e) <;>
    simp only [GR, go_sem, ↓reduceIte, p1, p2, p3, c0] <;> exact ⟨_, rfl⟩
   ·rintro F h ⟨rfl, p2, d, p3⟩
    simp only [GR, go_sem, ↓reduceIte, p3]
    try exact ⟨_, rfl⟩
   all_goals simp only [go_sem, ↓reduceIte]
   all_goals first | rfl | exact ⟨_, rfl⟩
theorem U7 (regs : List ByteArray) (vals : List Int) (hr : regs.length ≤ 1000) (hl : vals.length = regs.length) (n : Int) (h1 : 2 ≤ n) (h2 : n ≤ 2147483648) (r : List VV) (h : GE r) :
  VP V Ub [.ag r, lS regs, lI vals, .i .i64 n] fun x => ∃ (k : Int) (b : Bool), x = .tu [.i .i64 k, .b b] ∧ 0 ≤ k ∧ k < n := by
 have hin : ∀ v : Int, 0 ≤ v % n ∧ v % n < n := fun v => ⟨Int.emod_nonneg v (by omega), Int.emod_lt_of_pos v (by omega)⟩
 have q5 := fun v Q => RA C v n (by omega) h2 (Q := Q)
 induction h with
 | mk op m nm kids hkl hk ih =>
  rw [A8 C.c_z194.1 C.c_z194.2]
  by_cases o1 : op = 1
  ·simp only [HF, CO, go_sem, ↓reduceIte, o1, A0, q5]
   exact ⟨_, _, rfl, hin m⟩
  by_cases o2 : op = 2
  ·cases c0 : regs.any fun y => decide (nm = y) with
   | false =>
    have e := V4 c0
    simp only [HF, CO, go_sem, ↓reduceIte, o2, A0, q5, Int.reduceEq, DF C regs nm hr, e, Int.reduceLT, Int.reduceNeg]
    exact ⟨_, _, rfl, by omega, by omega⟩
   | true =>
    obtain ⟨k, e, hk', _⟩ := LW c0
    have hk2 : k < vals.length := by omega
    have hk3 : ¬ (k : Int) < 0 := by omega
    simp only [HF, CO, go_sem, ↓reduceIte, o2, A0, q5, Int.reduceEq, DF C regs nm hr, e, hk3, Ay hk2]
    exact ⟨_, _, rfl, hin _⟩
  by_cases o3 : op < 3
  ·simp only [HF, CO, go_sem, ↓reduceIte, o1, o2, o3, A0]
   exact ⟨_, _, rfl, by omega, by omega⟩
  by_cases o4 : 6 < op
  ·simp only [HF, CO, go_sem, ↓reduceIte, o1, o2, o3, o4, A0]
   exact ⟨_, _, rfl, by omega, by omega⟩
  by_cases o5 : (kids.length : Int) = 2
  ·obtain ⟨a, b, rfl⟩ : ∃ a b, kids = [a, b] := by
    rcases kids with _ | ⟨a, _ | ⟨b, _ | ⟨c, l⟩⟩⟩
    ·simp at o5
    ·simp at o5
    ·exact ⟨a, b, rfl⟩
    ·simp at o5; omega
   have ga := hk a (by simp)
   have gb := hk b (by simp)
   simp only [HF, CO, go_sem, ↓reduceIte, o1, o2, o3, o4, o5, A0, ga.len, ga.take, ga.frz, gb.len, gb.take, gb.frz, Int.reduceEq, Int.cast_ofNat_Int]
   refine (ih a (by simp)).mono ?_
   rintro _ ⟨ka, ba, rfl, _, _⟩
   simp only [CO, go_sem, ↓reduceIte, gb.len, gb.take, gb.frz]
   refine (ih b (by simp)).mono ?_
   rintro _ ⟨kb, bb, rfl, _, _⟩
   have hop : op = 3 ∨ op = 4 ∨ op = 5 ∨ op = 6 := by omega
   cases ba with
   | false =>
    simp only [CO, go_sem, ↓reduceIte]
    exact ⟨_, _, rfl, by omega, by omega⟩
   | true =>
    cases bb with
    | false =>
     simp only [CO, go_sem, ↓reduceIte]
     exact ⟨_, _, rfl, by omega, by omega⟩
    | true =>
     rcases hop with rfl | rfl | rfl | rfl
     ·simp only [CO, go_sem, ↓reduceIte, A0, q5, Int.reduceEq]
      exact ⟨_, _, rfl, hin _⟩
     ·simp only [CO, go_sem, ↓reduceIte, A0, q5, Int.reduceEq]
      exact ⟨_, _, rfl, hin _⟩
     ·cases c0 : decide (ka = kb) <;>
      simp only [CO, go_sem, ↓reduceIte, A0, q5, Int.reduceEq, c0] <;>
      exact ⟨_, _, rfl, by omega, by omega⟩
     ·cases c0 : decide (ka < kb) <;>
      simp only [CO, go_sem, ↓reduceIte, A0, q5, Int.reduceEq, c0] <;>
      exact ⟨_, _, rfl, by omega, by omega⟩
  ·simp only [HF, CO, go_sem, ↓reduceIte, o1, o2, o3, o4, o5, A0]
   exact ⟨_, _, rfl, by omega, by omega⟩
theorem Dr (regs : List ByteArray) (vals : List Int) (hr : regs.length ≤ 1000) (hl : vals.length = regs.length) (n : Int) (h1 : 2 ≤ n) (h2 : n ≤ 4) (r : List VV) (h : GE r) :
  VP V Qs [.ag r, lS regs, lI vals, .i .i64 n] fun x => ∃ (k : Int) (b : Bool), x = .tu [.i .i64 k, .b b] ∧ 0 ≤ k ∧ k < n := by
 have c1 : ¬ n < 2 := by omega
 have c2 : ¬ 4 < n := by omega
 have c3 : (regs.length : Int) = vals.length := by omega
 rw [A8 C.c_z182.1 C.c_z182.2]
 have hb : ∀ L, Cm L r = true := fun L => by cases h; rfl
 simp only [XZ, L3, go_sem, ↓reduceIte, c1, c2, c3, h.len, h.take, h.frz, h.cell]
 refine (Sq C r h).mono ?_
 rintro _ ⟨k, rfl⟩
 cases c0 : decide (6 < k) with
 | true =>
  simp only [L3, go_sem, ↓reduceIte, c0]
  exact ⟨_, _, rfl, by omega, by omega⟩
 | false =>
  simp only [L3, go_sem, ↓reduceIte, c0, h.len, h.take, h.frz]
  refine (U7 C regs vals hr hl n h1 (by omega) r h).mono ?_
  rintro _ ⟨k, b, rfl, hk⟩
  simp only [L3, go_sem, ↓reduceIte]
  exact ⟨_, _, rfl, hk⟩
theorem BW (k : Int) : VP V UJ [.i .i64 k] Q ↔ Q (.b (G7 k)) := by
 refine Aa ?_
 rw [A8 C.c_z181.1 C.c_z181.2]
 unfold G7
 cases c1 : decide (k = 1) <;> cases c2 : decide (k = 2) <;> cases c3 : decide (k = 4) <;>
 simp only [Zx, Sy, go_sem, ↓reduceIte, c1, c2, c3]
/-- What names come of statements. -/
def A5B (V : Ao) (l : List (List VV)) : Prop := ∀ out : List ByteArray, out.Nodup → (∀ n ∈ out, n ∈ N4) → VP V M6 [lS out, .ls l] fun x => ∃ o : List ByteArray, x = lS o ∧ o.Nodup ∧ (∀ n ∈ out, n ∈ o) ∧ (∀ n ∈ o, n ∈ N4) ∧ ∀ r ∈ l, RI o r
omit C in
theorem Mb {o : List ByteArray} (h : o.Nodup) (h4 : ∀ n ∈ o, n ∈ N4) : o.length ≤ 4 := List.Nodup.length_le_of_subset h h4
theorem GJ (l : List (List VV)) (hl : l.length ≤ 1000) (hs : ∀ s ∈ l, ∃ kind mode reg loc args th el, s = rS kind mode reg loc args th el ∧ (G7 kind = true → reg ∈ N4) ∧ A5B V th ∧ A5B V el) : A5B V l := by
 intro out hn h4
 rw [A8 C.c_z151.1 C.c_z151.2]
 simp only [XS, Dl, go_sem, ↓reduceIte]
 refine Am (by decide) l.length (by omega) (I := fun k F h => h = [] ∧ A3.tmp F 1 = .ls l ∧ ∃ o : List ByteArray, A3.tmp F 0 = lS o ∧ o.Nodup ∧ (∀ n ∈ out, n ∈ o) ∧ (∀ n ∈ o, n ∈ N4) ∧ ∀ j (hj : j < l.length), j < k → RI o l[j]) ?_ ?_ ?_ 0 _ _ (Nat.zero_le _) ?_ ?_
 ·rintro k F h hk p1 ⟨rfl, p2, o, p3, p4⟩
  simp only [Dl, go_sem, ↓reduceIte, p1, p2, p3]
  exact ⟨o, rfl, p4⟩
 ·rintro k F h hk p1 ⟨rfl, p2, o, p3, p4, p5, p6, p7⟩
  obtain ⟨kind, mode, reg, loc, args, th, el, e, hreg, a1, a2⟩ := hs _ (List.getElem_mem hk)
  have ho := Mb p4 p6
  have hk2 := QM hk
  rw [e] at hk2
  have fin : ∀ o2 : List ByteArray, o2.Nodup → (∀ n ∈ o, n ∈ o2) → (∀ n ∈ o2, n ∈ N4) → (G7 kind = true → reg ∈ o2) → VP V M6 [lS o2, .ls th] fun x => ∃ o3 : List ByteArray, x = lS o3 ∧ VP V M6 [lS o3, .ls el] fun x => ∃ o4 : List ByteArray, x = lS o4 ∧ o4.Nodup ∧ (∀ n ∈ out, n ∈ o4) ∧ (∀ n ∈ o4, n ∈ N4) ∧ ∀ j (hj : j < l.length), j < k + 1 → RI o4 l[j] := by
   intro o2 g1 g2 g3 g4
   refine (a1 o2 g1 g3).mono ?_
   rintro _ ⟨o3, rfl, q1, q2, q3, q4⟩
   refine ⟨o3, rfl, (a2 o3 q1 q3).mono ?_⟩
   rintro _ ⟨o4, rfl, r1, r2, r3, r4⟩
   refine ⟨o4, rfl, r1, fun n hn => r2 _ (q2 _ (g2 _ (p5 _ hn))), r3, fun j hj hjk => ?_⟩
   by_cases ej : j = k
   ·subst ej
    rw [e]
    exact .mk _ _ _ _ _ _ _ (fun h => r2 _ (q2 _ (g4 h))) (fun s hs => (q4 s hs).mono r2) r4
   ·exact (p7 j hj (by omega)).mono fun n hn => r2 _ (q2 _ (g2 _ hn))
  cases c0 : G7 kind with
  | false =>
   simp only [Dl, go_sem, ↓reduceIte, p1, p2, p3, hk2, BW C, c0]
   refine (fin o p4 (fun n h => h) p6 (fun h => by rw [c0] at h; cases h)).mono ?_
   rintro _ ⟨o3, rfl, hv⟩
   simp only [Dl, go_sem, ↓reduceIte, p1, p2, p3, hk2]
   refine hv.mono ?_
   rintro _ ⟨o4, rfl, hv⟩
   simp only [Dl, go_sem, ↓reduceIte, p1, p2, p3, hk2]
   exact ⟨o4, rfl, hv⟩
  | true =>
   cases c1 : o.any fun y => decide (reg = y) with
   | true =>
    have hreg2 : reg ∈ o := by
     rw [List.any_eq_true] at c1
     obtain ⟨x, hx, e⟩ := c1
     rw [of_decide_eq_true e]; exact hx
    simp only [Dl, go_sem, ↓reduceIte, p1, p2, p3, hk2, BW C, c0, CB C o reg (by omega), c1]
    refine (fin o p4 (fun n h => h) p6 (fun h => hreg2)).mono ?_
    rintro _ ⟨o3, rfl, hv⟩
    simp only [Dl, go_sem, ↓reduceIte, p1, p2, p3, hk2]
    refine hv.mono ?_
    rintro _ ⟨o4, rfl, hv⟩
    simp only [Dl, go_sem, ↓reduceIte, p1, p2, p3, hk2]
    exact ⟨o4, rfl, hv⟩
   | false =>
    have hreg2 : reg ∉ o := by
     intro h
     rw [List.any_eq_false] at c1
     simpa using c1 reg h
    have nd : (o ++ [reg]).Nodup := List.nodup_append.2 ⟨p4, by simp, by intro a ha b hb; simp at hb; subst hb; intro e; subst e; exact hreg2 ha⟩
    have sub : ∀ n ∈ o ++ [reg], n ∈ N4 := fun n hn => by
     rcases List.mem_append.1 hn with h | h
     ·exact p6 n h
     ·rw [List.mem_singleton.1 h]; exact hreg c0
    have f2 := fin (o ++ [reg]) nd (fun n h => List.mem_append_left _ h) sub (fun _ => by simp)
    have b0 : o.length * 16 ≤ A5 := by unfold A5; omega
    have b1 : (o.length + 1) * 16 ≤ A5 := by unfold A5; omega
    simp only [Dl, go_sem, ↓reduceIte, p1, p2, p3, hk2, BW C, c0, CB C o reg (by omega), c1, b0, b1]
    refine f2.mono ?_
    rintro _ ⟨o3, rfl, hv⟩
    simp only [Dl, go_sem, ↓reduceIte, p1, p2, p3, hk2]
    refine hv.mono ?_
    rintro _ ⟨o4, rfl, hv⟩
    simp only [Dl, go_sem, ↓reduceIte, p1, p2, p3, hk2]
    exact ⟨o4, rfl, hv⟩
 ·rintro F h ⟨rfl, p2, o, p3, p4, p5, p6, p7⟩
  simp only [Dl, go_sem, ↓reduceIte, p3]
  refine ⟨o, rfl, p4, p5, p6, fun r hr => ?_⟩
  obtain ⟨j, hj, rfl⟩ := List.mem_iff_getElem.1 hr
  exact p7 j hj hj
 all_goals simp only [go_sem, ↓reduceIte]
 exact ⟨out, rfl, hn, fun n h => h, h4, fun j hj hjk => by omega⟩
theorem Vk {locs : List ByteArray} {r : List VV} (h : GS locs r) : ∃ kind mode reg loc args th el, r = rS kind mode reg loc args th el ∧ (G7 kind = true → reg ∈ N4) ∧ A5B V th ∧ A5B V el := by
 induction h with
 | mk kind mode reg loc args th el h1 h2 h3 h4 h5 h6 h7 ih1 ih2 => exact ⟨kind, mode, reg, loc, args, th, el, rfl, h7.rn, GJ C th h3 ih1, GJ C el h4 ih2⟩
theorem WF {locs : List ByteArray} (l : List (List VV)) (hl : l.length ≤ 1000) (h : ∀ s ∈ l, GS locs s) : VP V TS [.ls l] fun x => ∃ o : List ByteArray, x = lS o ∧ o.Nodup ∧ (∀ n ∈ o, n ∈ N4) ∧ ∀ r ∈ l, RI o r := by
 rw [A8 C.c_z103.1 C.c_z103.2]
 simp only [ZF, NU, go_sem, ↓reduceIte]
 refine (GJ C l hl (fun s hs => Vk C (h s hs)) [] (by simp) (by simp)).mono ?_
 rintro _ ⟨o, rfl, h1, h2, h3, h4⟩
 simp only [NU, go_sem, ↓reduceIte]
 exact ⟨o, rfl, h1, h3, h4⟩
end
end Go.AM
