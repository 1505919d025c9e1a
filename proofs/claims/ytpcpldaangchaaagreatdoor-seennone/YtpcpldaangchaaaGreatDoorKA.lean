/-
  Own work, part of the proof of SeenNone: what functions compute (first part).
-/
import Derived.Test.YtpcpldaangchaaaGreatDoorCoB
import Derived.Test.YtpcpldaangchaaaGreatDoorPl
set_option linter.unusedVariables false
set_option linter.unusedSimpArgs false
set_option linter.unusedSectionVars false
set_option linter.unnecessarySimpa false
namespace Go.AM
open Go Go.Proofs
section
variable {V : VProg} (C : VCode V) {Q : VV → Prop}
include C
theorem bits_one_v (i : Int) : VP V n_z56 [.i .i64 i] Q ↔ Q (vW (oneF i)) := by
 refine VP_eq ?_
 rw [VP_fn C.c_z56.1 C.c_z56.2]
 unfold oneF
 by_cases h0 : i < 0
 ·simp only [f_z56, m_z56, go_sem, ↓reduceIte, h0]
  rw [if_neg (by omega)]
 ·by_cases h1 : 64 ≤ i
  ·simp only [f_z56, m_z56, go_sem, ↓reduceIte, h0, h1]
   rw [if_neg (by omega)]
  ·obtain ⟨n, rfl⟩ := Int.eq_ofNat_of_zero_le (by omega : 0 ≤ i)
   simp only [f_z56, m_z56, go_sem, ↓reduceIte, h0, h1, vW_shl (show n < 64 by omega)]
   rw [if_pos (by omega)]
theorem bits_Has_v (s : BitVec 64) (i : Int) : VP V n_z18 [vW s, .i .i64 i] Q ↔ Q (.b (hasF s i)) := by
 refine VP_eq ?_
 rw [VP_fn C.c_z18.1 C.c_z18.2]
 simp only [f_z18, m_z18, go_sem, ↓reduceIte, bits_one_v C, hasF_eq]
theorem bits_Put_v (s : BitVec 64) (i : Int) : VP V n_z66 [vW s, .i .i64 i] Q ↔ Q (vW (s ||| oneF i)) := by
 refine VP_eq ?_
 rw [VP_fn C.c_z66.1 C.c_z66.2]
 simp only [f_z66, m_z66, go_sem, ↓reduceIte, bits_one_v C]
theorem bits_Within_v (s t : BitVec 64) : VP V n_z79 [vW s, vW t] Q ↔ Q (.b (decide (s &&& ~~~t = 0#64))) := by
 refine VP_eq ?_
 rw [VP_fn C.c_z79.1 C.c_z79.2]
 simp only [f_z79, m_z79, go_sem, ↓reduceIte]
theorem bits_Of_v (xs : List Int) (hl : xs.length < 9223372036854775807) : VP V n_z38 [lI xs] Q ↔ Q (vW (ofF xs)) := by
 refine VP_eq ?_
 rw [VP_fn C.c_z38.1 C.c_z38.2]
 simp only [f_z38, m_z38, go_sem, ↓reduceIte]
 refine vrange_rule (by decide) xs.length hl (I := fun k F h => h = [] ∧ VFr.tmp F 6 = lI xs ∧ VFr.tmp F 3 = vW (ofF (xs.take k))) ?_ ?_ 0 _ _ (by omega) ?_ ?_ ?_
 ·rintro k F h hk h1 h2 ⟨rfl, h3, h4⟩
  simp only [m_z38, go_sem, ↓reduceIte, h1, h2, h3, h4, List.getElem?_eq_getElem hk, bits_one_v C]
  rw [List.take_succ_eq_append_getElem hk]
  simp only [ofF, List.foldl_append, List.foldl_cons, List.foldl_nil]
 ·rintro F h ⟨rfl, h3, h4⟩
  rw [List.take_length] at h4
  simp only [m_z38, go_sem, ↓reduceIte, h4]
 all_goals simp only [go_sem, ↓reduceIte]
 all_goals rfl
theorem slices_Index_sstring_string_v (xs : List ByteArray) (n : ByteArray) (hl : xs.length < 9223372036854775807) : VP V n_z144 [lS xs, .s n] Q ↔ Q (.i .i64 (fIdx (fun y => decide (n = y)) xs)) := by
 refine VP_eq ?_
 rw [VP_fn C.c_z144.1 C.c_z144.2]
 simp only [f_z144, m_z144, go_sem, ↓reduceIte]
 refine vrange_rule (by decide) xs.length hl (I := fun k F h => h = [] ∧ VFr.tmp F 0 = lS xs ∧ VFr.tmp F 1 = .s n ∧ ∀ (j : Nat) (hj : j < xs.length), j < k → ¬ n = xs[j]) ?_ ?_ 0 _ _ (by omega) ?_ ?_ ?_
 ·rintro k F h hk h1 h2 ⟨rfl, h3, h4, h5⟩
  by_cases e : n = xs[k]
  ·subst e
   simp only [m_z144, go_sem, ↓reduceIte, h1, h2, h3, h4, List.getElem?_eq_getElem hk]
   rw [fIdx_some hk (by simp) fun j hj => by simpa using h5 j (by omega) hj]
  ·simp only [m_z144, go_sem, ↓reduceIte, h1, h2, h3, h4, List.getElem?_eq_getElem hk, e]
   intro j hj hjk
   by_cases e2 : j = k
   ·subst e2; exact e
   ·exact h5 j hj (by omega)
 ·rintro F h ⟨rfl, h3, h4, h5⟩
  simp only [m_z144, go_sem, ↓reduceIte]
  rw [fIdx_none fun x hx => by obtain ⟨j, hj, e⟩ := List.mem_iff_getElem.1 hx; rw [← e]; simpa using h5 j hj hj]
 all_goals simp only [go_sem, ↓reduceIte]
 all_goals first | rfl | (intro j hj hjk; omega)
theorem slices_Contains_sstring_string_v (xs : List ByteArray) (n : ByteArray) (hl : xs.length < 9223372036854775807) : VP V n_z116 [lS xs, .s n] Q ↔ Q (.b (xs.any fun y => decide (n = y))) := by
 refine VP_eq ?_
 rw [VP_fn C.c_z116.1 C.c_z116.2]
 simp only [f_z116, m_z116, go_sem, ↓reduceIte, slices_Index_sstring_string_v C _ _ hl, fIdx_ge]
theorem slices_IndexFunc_sint_int_v (xs : List Int) (hl : xs.length < 9223372036854775807) {g : Nat} {a c : List VV} (ha : Fz a) (hc : Fz c) (p : Int → Bool) (hf : ∀ x, VP V g (a ++ [.i .i64 x] ++ c) fun r => r = .b (p x)) :
  VP V n_z160 [lI xs, .f g a c] Q ↔ Q (.i .i64 (fIdx p xs)) := by
 refine VP_eq ?_
 rw [VP_fn C.c_z160.1 C.c_z160.2]
 simp only [f_z160, m_z160, go_sem, ↓reduceIte]
 refine vrange_rule (by decide) xs.length hl (I := fun k F h => h = [] ∧ VFr.tmp F 0 = lI xs ∧ VFr.tmp F 1 = .f g a c ∧ ∀ (j : Nat) (hj : j < xs.length), j < k → p xs[j] = false) ?_ ?_ 0 _ _ (by omega) ?_ ?_ ?_
 ·rintro k F h hk h1 h2 ⟨rfl, h3, h4, h5⟩
  have hq := fun Q => VP_eq (hf xs[k]) (Q := Q)
  have hfz := ha.call hc (h := []) (x := [.i .i64 xs[k]]) rfl
  cases e : p xs[k] with
  | true =>
   simp only [m_z160, go_sem, ↓reduceIte, h1, h2, h3, h4, List.getElem?_eq_getElem hk, hfz, hq, e]
   rw [fIdx_some hk e fun j hj => h5 j (by omega) hj]
  | false =>
   simp only [m_z160, go_sem, ↓reduceIte, h1, h2, h3, h4, List.getElem?_eq_getElem hk, hfz, hq, e]
   have hcl : clV 0 (.f g a c) = .f g a c := by
    have h1 : belL 0 a = true := Fz.bel ha
    have h2 : belL 0 c = true := Fz.bel hc
    simp [clV, bel, h1, h2]
   simp only [clV_f, Fz.bel ha, Fz.bel hc, Bool.and_self, cond_true, true_and]
   intro j hj hjk
   by_cases e2 : j = k
   ·subst e2; exact e
   ·exact h5 j hj (by omega)
 ·rintro F h ⟨rfl, h3, h4, h5⟩
  simp only [m_z160, go_sem, ↓reduceIte]
  rw [fIdx_none fun x hx => by obtain ⟨j, hj, e⟩ := List.mem_iff_getElem.1 hx; rw [← e]; exact h5 j hj hj]
 all_goals simp only [go_sem, ↓reduceIte]
 all_goals first | rfl | (intro j hj hjk; omega)
theorem slices_ContainsFunc_sint_int_v (xs : List Int) (hl : xs.length < 9223372036854775807) {g : Nat} {a c : List VV} (ha : Fz a) (hc : Fz c) (p : Int → Bool) (hf : ∀ x, VP V g (a ++ [.i .i64 x] ++ c) fun r => r = .b (p x)) :
  VP V n_z146 [lI xs, .f g a c] Q ↔ Q (.b (xs.any p)) := by
 refine VP_eq ?_
 rw [VP_fn C.c_z146.1 C.c_z146.2]
 simp only [f_z146, m_z146, go_sem, ↓reduceIte, slices_IndexFunc_sint_int_v C xs hl ha hc p hf, Fz.eq ha, Fz.eq hc, fIdx_ge]
theorem slices_Equal_v (xs ys : List Int) (hl : xs.length < 9223372036854775807) : VP V n_z43 [lI xs, lI ys] Q ↔ Q (.b (decide (xs = ys))) := by
 refine VP_eq ?_
 rw [VP_fn C.c_z43.1 C.c_z43.2]
 by_cases hxy : xs.length = ys.length
 ·simp only [f_z43, m_z43, go_sem, ↓reduceIte, hxy]
  refine vrange_rule (by decide) ys.length (by omega) (I := fun k F h => h = [] ∧ VFr.tmp F 0 = lI xs ∧ VFr.tmp F 1 = lI ys ∧ ∀ (j : Nat) (hj : j < xs.length) (hj' : j < ys.length), j < k → xs[j] = ys[j]) ?_ ?_ 0 _ _ (by omega) ?_ ?_ ?_
  ·rintro k F h hk h1 h2 ⟨rfl, h3, h4, h5⟩
   have hk' : k < xs.length := by omega
   by_cases e : xs[k] = ys[k]
   ·simp only [m_z43, go_sem, ↓reduceIte, h1, h2, h3, h4, List.getElem?_eq_getElem hk, List.getElem?_eq_getElem hk', e]
    intro j hj hj' hjk
    by_cases e2 : j = k
    ·subst e2; exact e
    ·exact h5 j hj hj' (by omega)
   ·simp only [m_z43, go_sem, ↓reduceIte, h1, h2, h3, h4, List.getElem?_eq_getElem hk, List.getElem?_eq_getElem hk', e]
    refine (decide_eq_false ?_).symm
    rintro rfl
    exact e rfl
  ·rintro F h ⟨rfl, h3, h4, h5⟩
   simp only [m_z43, go_sem, ↓reduceIte]
   exact (decide_eq_true (List.ext_getElem hxy fun j hj hj' => h5 j hj hj' hj')).symm
  all_goals simp only [go_sem, ↓reduceIte]
  all_goals first | rfl | (intro j hj hj' hjk; omega)
 ·simp only [f_z43, m_z43, go_sem, ↓reduceIte, Int.natCast_inj, hxy]
  refine (decide_eq_false ?_).symm
  rintro rfl
  exact hxy rfl
end
end Go.AM

namespace Go.AM
open Go Go.Proofs
@[go_sem] theorem upToW_set {n k : Nat} {f : Nat → BitVec 64} {z : BitVec 64} : ((upTo n k f z).map eW).set k [vW (f k)] = (upTo n (k + 1) f z).map eW := upTo_set eW
@[go_sem] theorem upToI_set {n k : Nat} {f : Nat → Int} {z : Int} : ((upTo n k f z).map eI).set k [.i .i64 (f k)] = (upTo n (k + 1) f z).map eI := upTo_set eI
@[go_sem] theorem take_upTo {α : Type} {n k : Nat} {f : Nat → α} {z : α} : (upTo n k f z).take n = upTo n k f z := by rw [List.take_of_length_le]; rw [upTo_len]; exact Nat.le_refl n
attribute [go_sem] upTo_len List.length_range
@[go_sem] theorem take_range (n : Nat) : (List.range n).take n = List.range n := by rw [List.take_of_length_le]; simp
@[go_sem] theorem repW (n : Nat) (w : BitVec 64) : List.replicate n [vW w] = (List.replicate n w).map eW := by simp
@[go_sem] theorem repI (n : Nat) (w : Int) : List.replicate n [VV.i .i64 w] = (List.replicate n w).map eI := by simp
abbrev eP (p : Int × Int) : List VV := [.i .i64 p.1, .i .i64 p.2]
@[go_sem] theorem snoc_P (xs : List (Int × Int)) (x y : Int) : xs.map eP ++ [[.i .i64 x, .i .i64 y]] = (xs ++ [(x, y)]).map eP := by simp
theorem Fz.of {a : List VV} (h : ∀ h d, mapO (frz h (d + 3)) a = some (a, [])) : Fz a := h
section
variable {V : VProg} (C : VCode V) {Q : VV → Prop}
include C
end
end Go.AM

namespace Go.AM
open Go Go.Proofs
theorem Wd_shrU {e : Option Eq0} (s : BitVec 64) {n : Nat} (h : n < 64) : binV .shr e (Wd s) (.i .u64 n) = some (Wd (s >>> n)) := by
 have h0 : ¬ ((n : Int) < 0) := by omega
 simp only [Wd, binV, binShift, if_neg h0, IntKind.bits, Option.some.injEq, AV.i.injEq, true_and, Int.toNat_natCast]
 rw [Nat.min_eq_left (by omega), BitVec.toNat_ushiftRight, Nat.shiftRight_eq_div_pow]
 rw [show ((2 : Int) ^ n) = ((2 ^ n : Nat) : Int) by simp, Int.fdiv_eq_ediv_of_nonneg _ (Int.natCast_nonneg _)]
 rfl
theorem Wd_rem2 {e : Option Eq0} (s : BitVec 64) : binV .rem e (Wd s) (.i .u64 2) = some (Wd (if s.getLsbD 0 then 1#64 else 0#64)) := by
 rw [Wd, binV_rem (by decide)]
 simp only [Option.some.injEq, Wd, AV.i.injEq, true_and]
 have h0 : s.getLsbD 0 = decide (s.toNat % 2 = 1) := by
  show s.toNat.testBit 0 = _
  simp [Nat.testBit_zero]
 rw [h0]
 have : (s.toNat : Int).tmod 2 = ((s.toNat % 2 : Nat) : Int) := by
  rw [Int.tmod_eq_emod_of_nonneg (Int.natCast_nonneg _)]
  rfl
 rw [this]
 by_cases h : s.toNat % 2 = 1
 ·simp [h]
 ·have : s.toNat % 2 = 0 := by omega
  simp [this]
theorem vW_shrU {e : Option Eq0} (s : BitVec 64) {n : Nat} (h : n < 64) : vbin .shr e (vW s) (.i .u64 n) = some (vW (s >>> n)) := by
 show (binV .shr e (Wd s) (.i .u64 n)).bind ofSc = _
 rw [Wd_shrU s h]; rfl
theorem vW_rem2 {e : Option Eq0} (s : BitVec 64) : vbin .rem e (vW s) (.i .u64 2) = some (vW (if s.getLsbD 0 then 1#64 else 0#64)) := by
 show (binV .rem e (Wd s) (.i .u64 2)).bind ofSc = _
 rw [Wd_rem2 s]; rfl
section
variable {V : VProg} (C : VCode V) {Q : VV → Prop}
include C
theorem ref1_Has_v (s : BitVec 64) (i : Int) : VP V n_z57 [vW s, .i .i64 i] Q ↔ Q (.b (hasF s i)) := by
 refine VP_eq ?_
 rw [VP_fn C.c_z57.1 C.c_z57.2]
 by_cases h0 : i < 0
 ·have : hasF s i = false := by unfold hasF; simp; omega
  simp only [f_z57, m_z57, go_sem, ↓reduceIte, h0, this]
 ·by_cases h1 : 63 < i
  ·have : hasF s i = false := by
    unfold hasF
    rw [BitVec.getLsbD_of_ge _ _ (by omega)]
    simp
   simp only [f_z57, m_z57, go_sem, ↓reduceIte, h0, h1, this]
  ·obtain ⟨n, rfl⟩ := Int.eq_ofNat_of_zero_le (by omega : 0 ≤ i)
   have hw : IntKind.u64.wrap (n : Int) = n := by rw [wrap_u64]; omega
   have hs : ∀ e, vbin .shr e (vW s) (.i .u64 (n : Int)) = some (vW (s >>> n)) := fun e => vW_shrU s (by omega)
   simp only [f_z57, m_z57, go_sem, ↓reduceIte, h0, h1, hw, hs, vW_rem2]
   rw [hasF_nat, BitVec.getLsbD_ushiftRight, Nat.add_zero]
   cases s.getLsbD n <;> rfl
theorem ref1_Within_v (s t : BitVec 64) : VP V n_z2 [vW s, vW t] Q ↔ Q (.b (decide (s ||| t = t))) := by
 refine VP_eq ?_
 rw [VP_fn C.c_z2.1 C.c_z2.2]
 simp only [f_z2, m_z2, go_sem, ↓reduceIte]
theorem ref1_Power_v (n : Nat) (hn : n < 64) : VP V n_z88 [.i .i64 n] Q ↔ Q (vW (1#64 <<< n)) := by
 refine VP_eq ?_
 rw [VP_fn C.c_z88.1 C.c_z88.2]
 simp only [f_z88, m_z88, go_sem, ↓reduceIte]
 refine vfor_rule (by decide) n (by omega) (I := fun k F h => h = [] ∧ VFr.tmp F 0 = .i .i64 n ∧ VFr.tmp F 3 = vW (1#64 <<< k)) ?_ ?_ ?_ 0 _ _ (Nat.zero_le _) ?_ ?_
 ·rintro k F h hk h1 ⟨rfl, h2, h3⟩
  simp only [m_z88, go_sem, ↓reduceIte, h1, h2, h3]
 ·rintro k F h hk h1 ⟨rfl, h2, h3⟩
  simp only [m_z88, go_sem, ↓reduceIte, h1, h2, h3]
  congr 1
  apply BitVec.eq_of_toNat_eq
  rw [BitVec.toNat_add, BitVec.toNat_shiftLeft, BitVec.toNat_shiftLeft]
  simp only [Nat.shiftLeft_eq]
  have : (1#64).toNat = 1 := rfl
  rw [this, Nat.pow_succ]
  omega
 ·rintro F h ⟨rfl, h2, h3⟩
  simp only [m_z88, go_sem, ↓reduceIte, h3]
 all_goals simp only [go_sem, ↓reduceIte]
 all_goals rfl
theorem ref1_Put_v (s : BitVec 64) (i : Int) : VP V n_z47 [vW s, .i .i64 i] Q ↔ Q (vW (s ||| oneF i)) := by
 refine VP_eq ?_
 rw [VP_fn C.c_z47.1 C.c_z47.2]
 by_cases h0 : i < 0
 ·have : oneF i = 0#64 := by unfold oneF; rw [if_neg (by omega)]
  simp only [f_z47, m_z47, go_sem, ↓reduceIte, h0, this, BitVec.or_zero]
 ·by_cases h1 : 63 < i
  ·have : oneF i = 0#64 := by unfold oneF; rw [if_neg (by omega)]
   simp only [f_z47, m_z47, go_sem, ↓reduceIte, h0, h1, this, BitVec.or_zero]
  ·obtain ⟨n, rfl⟩ := Int.eq_ofNat_of_zero_le (by omega : 0 ≤ i)
   have h1f : oneF (n : Int) = 1#64 <<< n := by unfold oneF; rw [if_pos (by omega)]; rfl
   cases hb : hasF s n with
   | true =>
    simp only [f_z47, m_z47, go_sem, ↓reduceIte, h0, h1, ref1_Has_v C, hb]
    congr 1
    apply word_ext
    intro j hj
    rw [BitVec.getLsbD_or, oneF_bit]
    by_cases e : j = n
    ·subst e; rw [hasF_nat] at hb; simp [hb]
    ·have : ¬ ((j : Int) = n) := by omega
     simp [this]
   | false =>
    simp only [f_z47, m_z47, go_sem, ↓reduceIte, h0, h1, ref1_Has_v C, hb, ref1_Power_v C n (by omega)]
    congr 1
    rw [h1f]
    apply BitVec.add_eq_or_of_and_eq_zero
    rw [← h1f, and_oneF_eq]
    rw [hasF_nat] at hb
    simp [hb]
theorem ref1_Of_v (xs : List Int) (hl : xs.length < 9223372036854775807) : VP V n_z19 [lI xs] Q ↔ Q (vW (ofF xs)) := by
 refine VP_eq ?_
 rw [VP_fn C.c_z19.1 C.c_z19.2]
 simp only [f_z19, m_z19, go_sem, ↓reduceIte]
 refine vfor_rule (by decide) xs.length hl (I := fun k F h => h = [] ∧ VFr.tmp F 0 = lI xs ∧ VFr.tmp F 3 = vW (ofF (xs.take k))) ?_ ?_ ?_ 0 _ _ (Nat.zero_le _) ?_ ?_
 ·rintro k F h hk h1 ⟨rfl, h2, h3⟩
  simp only [m_z19, go_sem, ↓reduceIte, h1, h2, h3]
 ·rintro k F h hk h1 ⟨rfl, h2, h3⟩
  simp only [m_z19, go_sem, ↓reduceIte, h1, h2, h3, List.getElem?_eq_getElem hk, ref1_Put_v C]
  rw [List.take_succ_eq_append_getElem hk]
  simp only [ofF, List.foldl_append, List.foldl_cons, List.foldl_nil]
 ·rintro F h ⟨rfl, h2, h3⟩
  rw [List.take_length] at h3
  simp only [m_z19, go_sem, ↓reduceIte, h3]
 all_goals simp only [go_sem, ↓reduceIte]
 all_goals rfl
omit C in
theorem within_eq (s t : BitVec 64) : decide (s ||| t = t) = decide (s &&& ~~~t = 0#64) := by
 apply decide_eq_decide.2
 rw [sub_or]
 constructor
 ·intro h
  apply word_ext
  intro j hj
  cases hs : s.getLsbD j with
  | false => simp [hs]
  | true => simp [hs, h j hs]
 ·intro h j hj
  have := congrArg (fun w : BitVec 64 => w.getLsbD j) h
  have hlt : j < 64 := BitVec.lt_of_getLsbD hj
  simp [hj, hlt] at this
  exact this
end
end Go.AM

namespace Go.AM
open Go Go.Proofs
section
variable {V : VProg} (C : VCode V) {Q : VV → Prop}
include C
theorem ref17_Where_v (xs : List Int) (hl : xs.length < 9223372036854775807) (n : Int) : VP V n_z23 [lI xs, .i .i64 n] Q ↔ Q (.i .i64 (fIdx (fun y => decide (n = y)) xs)) := by
 refine VP_eq ?_
 rw [VP_fn C.c_z23.1 C.c_z23.2]
 simp only [f_z23, m_z23, go_sem, ↓reduceIte]
 refine vfor_rule (by decide) xs.length hl (I := fun k F h => h = [] ∧ VFr.tmp F 0 = lI xs ∧ VFr.tmp F 1 = .i .i64 n ∧ ∀ (j : Nat) (hj : j < xs.length), j < k → ¬ n = xs[j]) ?_ ?_ ?_ 0 _ _ (Nat.zero_le _) ?_ ?_
 ·rintro k F h hk h1 ⟨rfl, h2, h3, h4⟩
  simp only [m_z23, go_sem, ↓reduceIte, h1, h2, h3]
  exact h4
 ·rintro k F h hk h1 ⟨rfl, h2, h3, h4⟩
  by_cases e : xs[k] = n
  ·simp only [m_z23, go_sem, ↓reduceIte, h1, h2, h3, List.getElem?_eq_getElem hk, e]
   rw [fIdx_some hk (by simp [e]) fun j hj => by simpa using h4 j _ hj]
  ·simp only [m_z23, go_sem, ↓reduceIte, h1, h2, h3, List.getElem?_eq_getElem hk, e]
   intro j hj hjk
   by_cases e2 : j = k
   ·subst e2; exact fun e3 => e e3.symm
   ·exact h4 j hj (by omega)
 ·rintro F h ⟨rfl, h2, h3, h4⟩
  simp only [m_z23, go_sem, ↓reduceIte]
  rw [fIdx_none fun x hx => by obtain ⟨j, hj, e⟩ := List.mem_iff_getElem.1 hx; rw [← e]; simpa using h4 j hj hj]
 all_goals simp only [go_sem, ↓reduceIte]
 all_goals first | rfl | (intro j hj hjk; omega)
theorem ref12_Node_v (t : Tree) (n : Int) : VP V n_z59 [vT t, .i .i64 n] Q ↔ Q (.b (nodeF t n)) := by
 refine VP_eq ?_
 rw [VP_fn C.c_z59.1 C.c_z59.2]
 cases h0 : decide (0 ≤ n) <;> simp only [f_z59, m_z59, go_sem, ↓reduceIte, h0, nodeF]
theorem ref12_Plain_v (n : Node) : VP V n_z61 [vN n] Q ↔ Q (.b (plainF n)) := by
 refine VP_eq ?_
 rw [VP_fn C.c_z61.1 C.c_z61.2]
 cases c0 : decide (0 ≤ n.thread) <;> cases c1 : decide (n.kind = 3) <;> cases c2 : decide (n.mode = 0) <;>
  simp only [f_z61, m_z61, go_sem, ↓reduceIte, c0, c1, c2, plainF]
theorem ref12_Beneath_v (t : Tree) (hu : UpOk t) (a : Int) {b : Nat} (hb : b < t.nodes.length) : VP V n_z87 [vT t, .i .i64 a, .i .i64 b] Q ↔ Q (.b (beneathF t a b)) := by
 refine VP_eq ?_
 rw [VP_fn C.c_z87.1 C.c_z87.2]
 simp only [f_z87, m_z87, go_sem, ↓reduceIte, at_get hb]
 unfold VL
 rw [Vc_block]
 refine Vc_loop_inv (M := Int) (I := fun x F h => h = [] ∧ VFr.tmp F 3 = .fp (eT t) 0 ∧ VFr.tmp F 1 = .i .i64 a ∧ VFr.tmp F 7 = .i .i64 x ∧ x < t.nodes.length ∧ benF t a t.nodes.length x = beneathF t a b) (μ := fun x => (x + 1).toNat) ?_ (t.at b).up _ _ ⟨rfl, ?_, ?_, ?_, ?_, rfl⟩
 ·rintro x F h ⟨rfl, j1, j2, j3, j4, j5⟩
  have hfuel : ∀ y : Int, y < t.nodes.length → benF t a (t.nodes.length + 1) y = benF t a t.nodes.length y := fun y hy => benF_more hu a _ y hy hy
  by_cases c0 : 0 ≤ x
  ·obtain ⟨m, rfl⟩ := Int.eq_ofNat_of_zero_le c0
   have hm : m < t.nodes.length := by omega
   have hstep := hfuel (m : Int) j4
   rw [benF, if_neg (by omega)] at hstep
   by_cases c1 : (m : Int) = a
   ·rw [if_pos c1] at hstep
    subst c1
    simp only [l0_z87, m_z87, go_sem, ↓reduceIte, j1, j2, j3, Vc_block]
    rw [← j5, ← hstep]
   ·rw [if_neg c1, Int.toNat_natCast] at hstep
    have hup := hu m hm
    simp only [l0_z87, m_z87, go_sem, ↓reduceIte, j1, j2, j3, c1, Vc_block, at_get hm]
    exact ⟨_, by omega, rfl, by omega, by rw [hstep, j5]⟩
  ·have hstep := hfuel x j4
   rw [benF, if_pos (by omega)] at hstep
   simp only [l0_z87, m_z87, go_sem, ↓reduceIte, j1, j2, j3, c0]
   rw [← j5, ← hstep]
 ·simp only [go_sem, ↓reduceIte]
 ·simp only [go_sem, ↓reduceIte]
 ·simp only [go_sem, ↓reduceIte]
 ·have := hu b hb; omega
set_option maxHeartbeats 1000000 in
theorem ref12_Against_v (t : Tree) (hu : UpOk t) (a b : Int) : VP V n_z62 [vT t, .i .i64 a, .i .i64 b] Q ↔ Q (.b (againstF t a b)) := by
 refine VP_eq ?_
 rw [VP_fn C.c_z62.1 C.c_z62.2]
 cases ha : nodeF t a with
 | false => simp only [f_z62, m_z62, go_sem, ↓reduceIte, ref12_Node_v C, ha, againstF]
 | true =>
  cases hb : nodeF t b with
  | false => simp only [f_z62, m_z62, go_sem, ↓reduceIte, ref12_Node_v C, ha, hb, againstF]
  | true =>
   obtain ⟨m, rfl, hm⟩ := nodeF_nat ha
   obtain ⟨n, rfl, hn⟩ := nodeF_nat hb
   by_cases e : (m : Int) = n
   ·simp only [f_z62, m_z62, go_sem, ↓reduceIte, ref12_Node_v C, ha, hb, againstF, e]
   ·cases c0 : decide (0 ≤ (t.at m).thread) <;> cases c1 : decide ((t.at m).thread = (t.at n).thread) <;> cases c2 : beneathF t (m : Int) n <;>
     simp only [f_z62, m_z62, go_sem, ↓reduceIte, ref12_Node_v C, ha, hb, againstF, e, at_get hm, at_get hn, c0, c1, c2, ref12_Beneath_v C t hu _ hn, ref12_Beneath_v C t hu _ hm]
end
end Go.AM

namespace Go.AM
open Go Go.Proofs
theorem vwrap_pred {k : Nat} (h0 : 0 < k) (h : k < 9223372036854775807) : IntKind.i64.wrap ((k : Int) - 1) = ((k - 1 : Nat) : Int) := by rw [wrap_i64 (by omega) (by omega)]; omega
section
variable {V : VProg} (C : VCode V) {Q : VV → Prop}
include C
theorem ref17_Where_v' (xs : List Int) (hl : xs.length < 9223372036854775807) (n : Int) : VP V n_z23 [lI xs, .i .i64 n] Q ↔ Q (.i .i64 (wIdx xs n)) := ref17_Where_v C xs hl n
theorem ref12_Inits_v (t : Tree) (ht : t.nodes.length ≤ 1000) : VP V n_z60 [vT t] Q ↔ Q (vW (initsF t)) := by
 refine VP_eq ?_
 rw [VP_fn C.c_z60.1 C.c_z60.2]
 simp only [f_z60, m_z60, go_sem, ↓reduceIte]
 refine vfor_rule (by decide) t.nodes.length (by omega) (I := fun k F h => h = [] ∧ VFr.tmp F 1 = .fp (eT t) 0 ∧ VFr.tmp F 3 = vW (setF fun i => decide (i < k) && decide ((t.at i).up < 0))) ?_ ?_ ?_ 0 _ _ (Nat.zero_le _) ?_ ?_
 ·rintro k F h hk p1 ⟨rfl, p2, p3⟩
  simp only [m_z60, go_sem, ↓reduceIte, p1, p2, p3]
 ·rintro k F h hk p1 ⟨rfl, p2, p3⟩
  by_cases e : (t.at k).up < 0
  ·simp only [m_z60, go_sem, ↓reduceIte, p1, p2, p3, at_get hk, e, ref1_Put_v C]
   by_cases h64 : k < 64
   ·rw [setF_put _ _ h64]
    congr 1
    apply setF_congr
    intro j hj
    by_cases e2 : j = k
    ·subst e2; simp [e]
    ·have : (j < k + 1) ↔ (j < k) := by omega
     simp [this, e2]
   ·have : oneF (k : Int) = 0#64 := by unfold oneF; rw [if_neg (by omega)]
    rw [this, BitVec.or_zero]
    congr 1
    apply setF_congr
    intro j hj
    have : (j < k + 1) ↔ (j < k) := by omega
    simp [this]
  ·simp only [m_z60, go_sem, ↓reduceIte, p1, p2, p3, at_get hk, e]
   congr 1
   apply setF_congr
   intro j hj
   by_cases e2 : j = k
   ·subst e2; simp [e]
   ·have : (j < k + 1) ↔ (j < k) := by omega
    simp [this]
 ·rintro F h ⟨rfl, p2, p3⟩
  simp only [m_z60, go_sem, ↓reduceIte, p3, initsF]
 all_goals simp only [go_sem, ↓reduceIte]
 all_goals first | rfl | (rw [← setF_none]; congr 1; apply setF_congr; intro j hj; simp)
set_option maxHeartbeats 1000000 in
theorem ref17_nodes_v (t : Tree) (ht : t.nodes.length ≤ 1000) (l : List Int) (hl : l.length ≤ 1000) : VP V n_z22 [vT t, lI l] Q ↔ Q (.b (nodesF t l)) := by
 refine VP_eq ?_
 rw [VP_fn C.c_z22.1 C.c_z22.2]
 simp only [f_z22, m_z22, go_sem, ↓reduceIte]
 refine vfor_rule (by decide) l.length (by omega) (I := fun k F h => h = [] ∧ VFr.tmp F 1 = lI l ∧ VFr.tmp F 2 = .fp (eT t) 0 ∧ ∀ j, j < k → nodeOkF t l j = true) ?_ ?_ ?_ 0 _ _ (Nat.zero_le _) ?_ ?_
 ·rintro k F h hk p1 ⟨rfl, p2, p3, p4⟩
  simp only [m_z22, go_sem, ↓reduceIte, p1, p2, p3]
  exact p4
 ·rintro k F h hk p1 ⟨rfl, p2, p3, p4⟩
  have bad : nodeOkF t l k = false → false = nodesF t l := fun h => by rw [nodesF, all_range_f hk h]; rfl
  have good : nodeOkF t l k = true → ∀ j, j < k + 1 → nodeOkF t l j = true := fun h j hj => by
   by_cases e : j = k
   ·rw [e]; exact h
   ·exact p4 j (by omega)
  cases c0 : nodeF t (l.getD k 0) with
  | false =>
   simp only [m_z22, go_sem, ↓reduceIte, p1, p2, p3, getI hk, ref12_Node_v C, c0]
   exact bad (by rw [nodeOkF, c0]; rfl)
  | true =>
   obtain ⟨n, hn, hn'⟩ := nodeF_nat c0
   have hup : nodeOkF t l k = (risF l k && (decide ((t.at n).up < 0) || inL l (t.at n).up)) := by
    unfold nodeOkF
    rw [c0, hn, Int.toNat_natCast, Bool.true_and]
   rw [hn] at c0
   by_cases z : k = 0
   ·subst z
    have hr : risF l 0 = true := by simp [risF]
    rw [hr, Bool.true_and] at hup
    have z0 : ¬ (0 : Int) < ((0 : Nat) : Int) := by omega
    by_cases u0 : 0 ≤ (t.at n).up
    ·have u1 : ¬ (t.at n).up < 0 := by omega
     rw [decide_eq_false u1, Bool.false_or] at hup
     cases u2 : inL l (t.at n).up <;> rw [u2] at hup <;>
      simp only [m_z22, go_sem, ↓reduceIte, p1, p2, p3, getI hk, ref12_Node_v C, c0, z0, hn, at_get hn', u0, ref17_Where_v' C l (by omega), wIdx_lt, u2]
     ·exact bad hup
     ·exact good hup
    ·have u1 : (t.at n).up < 0 := by omega
     rw [decide_eq_true u1, Bool.true_or] at hup
     simp only [m_z22, go_sem, ↓reduceIte, p1, p2, p3, getI hk, ref12_Node_v C, c0, z0, hn, at_get hn', u0]
     exact good hup
   ·have z0 : (0 : Int) < (k : Int) := by omega
    have zw := vwrap_pred (show 0 < k by omega) (by omega)
    have hk1 : k - 1 < l.length := by omega
    have hr : risF l k = !decide ((n : Int) ≤ l.getD (k - 1) 0) := by
     unfold risF
     rw [decide_eq_false z, Bool.false_or, hn]
     by_cases c : (n : Int) ≤ l.getD (k - 1) 0
     ·rw [decide_eq_true c, decide_eq_false (by omega)]; rfl
     ·rw [decide_eq_false c, decide_eq_true (by omega)]; rfl
    cases c1 : decide ((n : Int) ≤ l.getD (k - 1) 0) with
    | true =>
     rw [c1] at hr
     rw [hr] at hup
     simp only [m_z22, go_sem, ↓reduceIte, p1, p2, p3, getI hk, ref12_Node_v C, c0, z0, zw, getI hk1, hn, c1]
     exact bad hup
    | false =>
     rw [c1] at hr
     rw [hr] at hup
     simp only [Bool.not_false, Bool.true_and] at hup
     by_cases u0 : 0 ≤ (t.at n).up
     ·have u1 : ¬ (t.at n).up < 0 := by omega
      rw [decide_eq_false u1, Bool.false_or] at hup
      cases u2 : inL l (t.at n).up <;> rw [u2] at hup <;>
       simp only [m_z22, go_sem, ↓reduceIte, p1, p2, p3, getI hk, ref12_Node_v C, c0, z0, zw, getI hk1, hn, c1, at_get hn', u0, ref17_Where_v' C l (by omega), wIdx_lt, u2]
      ·exact bad hup
      ·exact good hup
     ·have u1 : (t.at n).up < 0 := by omega
      rw [decide_eq_true u1, Bool.true_or] at hup
      simp only [m_z22, go_sem, ↓reduceIte, p1, p2, p3, getI hk, ref12_Node_v C, c0, z0, zw, getI hk1, hn, c1, at_get hn', u0]
      exact good hup
 ·rintro F h ⟨rfl, p2, p3, p4⟩
  simp only [m_z22, go_sem, ↓reduceIte, p2, p3, ref12_Inits_v C t ht, ref1_Of_v C l (by omega), ref1_Within_v C]
  rw [nodesF, all_range_t p4]; rfl
 all_goals simp only [go_sem, ↓reduceIte]
 all_goals first | rfl | (intro j hj; omega)
set_option maxHeartbeats 4000000 in
theorem ref17_class_v (t : Tree) (hu : UpOk t) (l has : List Int) (hl : l.length ≤ 1000) (hh : has.length ≤ 1000) (hv : ∀ n ∈ has, nodeF t n = true) (loc : Int) : VP V n_z24 [vT t, lI l, lI has, .i .i64 loc] Q ↔ Q (.b (classF t l has loc)) := by
  refine VP_eq ?_
  rw [VP_fn C.c_z24.1 C.c_z24.2]
  by_cases z : l.length = 0
  · have z' : (l.length : Int) = 0 := by omega
    simp only [f_z24, m_z24, go_sem, ↓reduceIte, z']
    simp [classF, z]
  have z' : ¬ (l.length : Int) = 0 := by omega
  simp only [f_z24, m_z24, go_sem, ↓reduceIte, z']
  refine vfor_rule (by decide) l.length (by omega) (I := fun k F h => h = [] ∧ VFr.tmp F 1 = lI l ∧ VFr.tmp F 2 = lI has ∧ VFr.tmp F 3 = .i .i64 loc ∧ VFr.tmp F 4 = .fp (eT t) 0 ∧ ∀ j, j < k → classAtF t l has loc j = true) ?_ ?_ ?_ 0 _ _ (Nat.zero_le _) ?_ ?_
  · rintro k F h hk p1 ⟨rfl, p2, p3, p4, p5, p6⟩
    simp only [m_z24, go_sem, ↓reduceIte, p1, p2, p3, p4, p5]
    exact p6
  · rintro k F h hk p1 ⟨rfl, p2, p3, p4, p5, p6⟩
    have bad : classAtF t l has loc k = false → false = classF t l has loc := fun h => by rw [classF, all_range_f hk h]; simp
    have good : classAtF t l has loc k = true → ∀ j, j < k + 1 → classAtF t l has loc j = true := fun h j hj => by
      by_cases e : j = k
      · rw [e]; exact h
      · exact p6 j (by omega)
    cases c0 : inL has (l.getD k 0) with
    | false =>
      simp only [m_z24, go_sem, ↓reduceIte, p1, p2, p3, p4, p5, getI hk, ref17_Where_v' C has (by omega), wIdx_lt, c0]
      exact bad (by rw [classAtF, c0]; rfl)
    | true =>
      obtain ⟨n, hn, hn'⟩ := nodeF_nat (hv _ (inL_iff.1 c0))
      have hcls : classAtF t l has loc k = (risF l k && (decide ((t.at n).kind = 3) && decide ((t.at n).loc = loc)) && decide (0 ≤ (t.at n).thread) && (List.range k).all fun j => sameClassF t (l.getD k 0) (l.getD j 0)) := by
        unfold classAtF isWF
        rw [c0, hn, Int.toNat_natCast, Bool.true_and]
      have hris : risF l k = (decide (k = 0) || decide (l.getD (k - 1) 0 < (n : Int))) := by rw [risF, hn]
      rw [hn] at c0
      have tail : ∀ (hr : risF l k = true) (hx1 : decide ((t.at n).kind = 3) = true) (hx2 : decide ((t.at n).loc = loc) = true) (hx3 : decide ((t.at n).thread < 0) = false) (G : VFr) (Q' : Ex → VFr → VH → Prop)
          (g1 : VFr.tmp G 1 = lI l) (g2 : VFr.tmp G 2 = lI has) (g3 : VFr.tmp G 3 = .i .i64 loc) (g4 : VFr.tmp G 4 = .fp (eT t) 0) (g9 : VFr.tmp G 9 = .i .i64 k) (g10 : VFr.tmp G 10 = .p 0 0 0 0) (g11 : VFr.tmp G 11 = .i .i64 0)
          (q1 : ∀ G' h', VFr.tmp G' 1 = lI l → VFr.tmp G' 2 = lI has → VFr.tmp G' 3 = .i .i64 loc → VFr.tmp G' 4 = .fp (eT t) 0 → VFr.tmp G' 9 = .i .i64 k → classAtF t l has loc k = true → Q' .norm G' h') (q2 : ∀ G' h', VFr.tmp G' 8 = .b false → classAtF t l has loc k = false → Q' .ret G' h'),
          VL V m_z24 2 l2_z24 G [some ⟨T_api_Node, 0, 0, false, [eN (t.at n)]⟩] Q' := by
        intro hr hx1 hx2 hx3 G Q' g1 g2 g3 g4 g9 g10 g11 q1 q2
        have hx3' : decide (0 ≤ (t.at n).thread) = true := by simp at hx3 ⊢; omega
        rw [hr, hx1, hx2, hx3'] at hcls
        simp only [Bool.and_self, Bool.true_and] at hcls
        refine vfor_rule (by decide) k (by omega) (I := fun j F h => h = [some ⟨T_api_Node, 0, 0, false, [eN (t.at n)]⟩] ∧ VFr.tmp F 1 = lI l ∧ VFr.tmp F 2 = lI has ∧ VFr.tmp F 3 = .i .i64 loc ∧ VFr.tmp F 4 = .fp (eT t) 0 ∧ VFr.tmp F 9 = .i .i64 k ∧ VFr.tmp F 10 = .p 0 0 0 0 ∧ ∀ i, i < j → sameClassF t (l.getD k 0) (l.getD i 0) = true) ?_ ?_ ?_ 0 _ _ (Nat.zero_le _) g11 ⟨rfl, g1, g2, g3, g4, g9, g10, fun i hi => by omega⟩
        · rintro j F h hj r1 ⟨rfl, r2, r3, r4, r5, r6, r7, r8⟩
          simp only [m_z24, go_sem, ↓reduceIte, r1, r2, r3, r4, r5, r6, r7]
          exact r8
        · rintro j F h hj r1 ⟨rfl, r2, r3, r4, r5, r6, r7, r8⟩
          have hjl : j < l.length := by omega
          have c1 : inL has (l.getD j 0) = true := by
            have := p6 j hj
            unfold classAtF at this
            simp only [Bool.and_eq_true] at this
            exact this.1.1.1.1
          obtain ⟨n2, hn2, hn2'⟩ := nodeF_nat (hv _ (inL_iff.1 c1))
          have hsc : sameClassF t (l.getD k 0) (l.getD j 0) = (plainF (t.at n) && plainF (t.at n2) && decide ((t.at n).val = (t.at n2).val) && againstF t n n2) := by
            unfold sameClassF; rw [hn, hn2, Int.toNat_natCast, Int.toNat_natCast]
          have bad2 : sameClassF t (l.getD k 0) (l.getD j 0) = false → classAtF t l has loc k = false := fun h => by rw [hcls]; exact all_range_f hj h
          have good2 : sameClassF t (l.getD k 0) (l.getD j 0) = true → ∀ i, i < j + 1 → sameClassF t (l.getD k 0) (l.getD i 0) = true := fun h i hi => by
            by_cases e : i = j
            · rw [e]; exact h
            · exact r8 i (by omega)
          cases y1 : plainF (t.at n) <;> cases y2 : plainF (t.at n2) <;> cases y3 : decide ((t.at n).val = (t.at n2).val) <;> cases y4 : againstF t n n2 <;> rw [y1, y2, y3, y4] at hsc <;>
            simp only [m_z24, go_sem, ↓reduceIte, r1, r2, r3, r4, r5, r6, r7, getI hk, getI hjl, hn, hn2, at_get hn2', ref12_Plain_v C, ref12_Against_v C t hu, y1, y2, y3, y4]
          all_goals first
            | exact q2 _ _ (by simp only [go_sem, ↓reduceIte]) (bad2 hsc)
            | (have := good2 hsc; rw [hn] at this; exact this)
        · rintro F h ⟨rfl, r2, r3, r4, r5, r6, r7, r8⟩
          exact q1 _ _ r2 r3 r4 r5 r6 (by rw [hcls]; exact all_range_t r8)
      have zb : (k = 0 ∧ decide ((0 : Int) < (k : Int)) = false) ∨ (0 < k ∧ decide ((0 : Int) < (k : Int)) = true) := by
        rcases Nat.eq_zero_or_pos k with h | h
        · exact .inl ⟨h, by simp [h]⟩
        · exact .inr ⟨h, by simp; omega⟩
      have hk1 : k - 1 < l.length := by omega
      rcases zb with ⟨zk, z0⟩ | ⟨zk, z0⟩
      · have hr : risF l k = true := by rw [hris, zk]; rfl
        simp only [m_z24, go_sem, ↓reduceIte, p1, p2, p3, p4, p5, getI hk, ref17_Where_v' C has (by omega), wIdx_lt, hn, c0, z0, at_get hn']
        repeat' first
          | (refine VG_split (fun hx => ?_) (fun hx => ?_) <;> simp only [m_z24, go_sem, ↓reduceIte, p1, p2, p3, p4, p5, hx])
          | (refine VCn_split (fun hx => ?_) (fun hx => ?_) <;> simp only [m_z24, go_sem, ↓reduceIte, p1, p2, p3, p4, p5, hx])
        all_goals first
          | exact bad (by rw [hcls]; simp_all)
          | (refine tail hr (by simp_all) (by simp_all) (by assumption) _ _ ?_ ?_ ?_ ?_ ?_ ?_ ?_ ?_ ?_
             all_goals try simp only [go_sem, ↓reduceIte, p1, p2, p3, p4, p5]
             · intro G' e1 e2 e3 e4 e5 e6
               simp only [e1, e2, e3, e4, e5, go_sem]
               exact good e6
             · intro G' h' e1 e2
               simp only [e1, go_sem, bad e2])
      · have zw := vwrap_pred zk (by omega)
        simp only [m_z24, go_sem, ↓reduceIte, p1, p2, p3, p4, p5, getI hk, getI hk1, ref17_Where_v' C has (by omega), wIdx_lt, hn, c0, z0, zw, at_get hn']
        repeat' first
          | (refine VG_split (fun hx => ?_) (fun hx => ?_) <;> simp only [m_z24, go_sem, ↓reduceIte, p1, p2, p3, p4, p5, getI hk, hn, hx, at_get hn'])
          | (refine VCn_split (fun hx => ?_) (fun hx => ?_) <;> simp only [m_z24, go_sem, ↓reduceIte, p1, p2, p3, p4, p5, getI hk, hn, hx, at_get hn'])
        all_goals first
          | exact bad (by rw [hcls, hris]; simp_all; try omega)
          | (refine tail (by rw [hris]; simp_all) (by simp_all) (by simp_all) (by assumption) _ _ ?_ ?_ ?_ ?_ ?_ ?_ ?_ ?_ ?_
             all_goals try simp only [go_sem, ↓reduceIte, p1, p2, p3, p4, p5]
             · intro G' e1 e2 e3 e4 e5 e6
               simp only [e1, e2, e3, e4, e5, go_sem]
               exact good e6
             · intro G' h' e1 e2
               simp only [e1, go_sem, bad e2])
  · rintro F h ⟨rfl, p2, p3, p4, p5, p6⟩
    simp only [m_z24, go_sem, ↓reduceIte]
    rw [classF, all_range_t p6]; simp [z]
  all_goals simp only [go_sem, ↓reduceIte]
  all_goals first | rfl | (intro j hj; omega)
end
end Go.AM

namespace Go.AM
open Go Go.Proofs
abbrev eLk (t : Tree) (a : Int) : List VV := [.i .i64 t.vals, lS t.locs, .ls (t.regs.map eLS), .ls (t.nodes.map eN), .i .i64 a]
abbrev LK (t : Tree) (a : Int) : Option VO := some ⟨T_lts_looker, 0, 0, false, [eLk t a]⟩
@[go_sem] theorem apg0 {α : Type} (r s : List α) : (r ++ s)[r.length]? = s[0]? := by
 rw [List.getElem?_append_right (Nat.le_refl _), Nat.sub_self]
@[go_sem] theorem apgk {α : Type} (r s : List α) (k : Nat) : (r ++ s)[r.length + k]? = s[k]? := by
 rw [List.getElem?_append_right (Nat.le_add_right _ _), Nat.add_sub_cancel_left]
@[go_sem] theorem aps0 {α : Type} (r s : List α) (x : α) : (r ++ s).set r.length x = r ++ s.set 0 x := by
 rw [List.set_append_right _ _ (Nat.le_refl _), Nat.sub_self]
@[go_sem] theorem apsk {α : Type} (r s : List α) (k : Nat) (x : α) : (r ++ s).set (r.length + k) x = r ++ s.set k x := by
 rw [List.set_append_right _ _ (Nat.le_add_right _ _), Nat.add_sub_cancel_left]
@[go_sem] theorem take_app0 {α : Type} (r s : List α) : (r ++ s).take r.length = r := by simp
@[go_sem] theorem take_appk {α : Type} (r s : List α) (k : Nat) : (r ++ s).take (r.length + k) = r ++ s.take k := by rw [List.take_append, List.take_of_length_le (Nat.le_add_right _ _), Nat.add_sub_cancel_left]
@[go_sem] theorem okT_app (L : Nat) (r s s' : VH) : okT L (r ++ s) (r ++ s') = okT L s s' := by
 induction r with
 | nil => rfl
 | cons x r ih => simp only [List.cons_append, okT_cons, ih, true_or, true_and]
@[go_sem] theorem okT_appn (L : Nat) (r s' : VH) : okT L r (r ++ s') = True := okT_same L r s'
@[go_sem] theorem dz0 : decide ((0 : Int) < ((0 : Nat) : Int)) = false := rfl
@[go_sem] theorem dlt0 (n : Nat) : decide (0 < n + 1) = true := by simp
@[go_sem] theorem dlt1 (n : Nat) : decide (n < n + 1) = true := by simp
@[go_sem] theorem dlt2 (n : Nat) : decide (n < n + 1 + 1) = true := by simp; omega
@[go_sem] theorem dlt3 (n : Nat) : decide (n < n + 1 + 1 + 1) = true := by simp; omega
@[go_sem] theorem dlt4 (n : Nat) : decide (n < n + 1 + 1 + 1 + 1) = true := by simp; omega
@[go_sem] theorem dlk1_2 (n : Nat) : decide (1 < n + 1 + 1) = true := by rw [decide_eq_true_iff]; omega
@[go_sem] theorem dlk1_3 (n : Nat) : decide (1 < n + 1 + 1 + 1) = true := by rw [decide_eq_true_iff]; omega
@[go_sem] theorem dlk1_4 (n : Nat) : decide (1 < n + 1 + 1 + 1 + 1) = true := by rw [decide_eq_true_iff]; omega
@[go_sem] theorem dlk1_5 (n : Nat) : decide (1 < n + 1 + 1 + 1 + 1 + 1) = true := by rw [decide_eq_true_iff]; omega
@[go_sem] theorem dlk1_6 (n : Nat) : decide (1 < n + 1 + 1 + 1 + 1 + 1 + 1) = true := by rw [decide_eq_true_iff]; omega
@[go_sem] theorem dlk1_7 (n : Nat) : decide (1 < n + 1 + 1 + 1 + 1 + 1 + 1 + 1) = true := by rw [decide_eq_true_iff]; omega
@[go_sem] theorem dlk1_8 (n : Nat) : decide (1 < n + 1 + 1 + 1 + 1 + 1 + 1 + 1 + 1) = true := by rw [decide_eq_true_iff]; omega
@[go_sem] theorem dlk2_3 (n : Nat) : decide (2 < n + 1 + 1 + 1) = true := by rw [decide_eq_true_iff]; omega
@[go_sem] theorem dlk2_4 (n : Nat) : decide (2 < n + 1 + 1 + 1 + 1) = true := by rw [decide_eq_true_iff]; omega
@[go_sem] theorem dlk2_5 (n : Nat) : decide (2 < n + 1 + 1 + 1 + 1 + 1) = true := by rw [decide_eq_true_iff]; omega
@[go_sem] theorem dlk2_6 (n : Nat) : decide (2 < n + 1 + 1 + 1 + 1 + 1 + 1) = true := by rw [decide_eq_true_iff]; omega
@[go_sem] theorem dlk2_7 (n : Nat) : decide (2 < n + 1 + 1 + 1 + 1 + 1 + 1 + 1) = true := by rw [decide_eq_true_iff]; omega
@[go_sem] theorem dlk2_8 (n : Nat) : decide (2 < n + 1 + 1 + 1 + 1 + 1 + 1 + 1 + 1) = true := by rw [decide_eq_true_iff]; omega
@[go_sem] theorem dlk3_4 (n : Nat) : decide (3 < n + 1 + 1 + 1 + 1) = true := by rw [decide_eq_true_iff]; omega
@[go_sem] theorem dlk3_5 (n : Nat) : decide (3 < n + 1 + 1 + 1 + 1 + 1) = true := by rw [decide_eq_true_iff]; omega
@[go_sem] theorem dlk3_6 (n : Nat) : decide (3 < n + 1 + 1 + 1 + 1 + 1 + 1) = true := by rw [decide_eq_true_iff]; omega
@[go_sem] theorem dlk3_7 (n : Nat) : decide (3 < n + 1 + 1 + 1 + 1 + 1 + 1 + 1) = true := by rw [decide_eq_true_iff]; omega
@[go_sem] theorem dlk3_8 (n : Nat) : decide (3 < n + 1 + 1 + 1 + 1 + 1 + 1 + 1 + 1) = true := by rw [decide_eq_true_iff]; omega
@[go_sem] theorem dlk4_5 (n : Nat) : decide (4 < n + 1 + 1 + 1 + 1 + 1) = true := by rw [decide_eq_true_iff]; omega
@[go_sem] theorem dlk4_6 (n : Nat) : decide (4 < n + 1 + 1 + 1 + 1 + 1 + 1) = true := by rw [decide_eq_true_iff]; omega
@[go_sem] theorem dlk4_7 (n : Nat) : decide (4 < n + 1 + 1 + 1 + 1 + 1 + 1 + 1) = true := by rw [decide_eq_true_iff]; omega
@[go_sem] theorem dlk4_8 (n : Nat) : decide (4 < n + 1 + 1 + 1 + 1 + 1 + 1 + 1 + 1) = true := by rw [decide_eq_true_iff]; omega
@[go_sem] theorem dlk5_6 (n : Nat) : decide (5 < n + 1 + 1 + 1 + 1 + 1 + 1) = true := by rw [decide_eq_true_iff]; omega
@[go_sem] theorem dlk5_7 (n : Nat) : decide (5 < n + 1 + 1 + 1 + 1 + 1 + 1 + 1) = true := by rw [decide_eq_true_iff]; omega
@[go_sem] theorem dlk5_8 (n : Nat) : decide (5 < n + 1 + 1 + 1 + 1 + 1 + 1 + 1 + 1) = true := by rw [decide_eq_true_iff]; omega
@[go_sem] theorem dlk6_7 (n : Nat) : decide (6 < n + 1 + 1 + 1 + 1 + 1 + 1 + 1) = true := by rw [decide_eq_true_iff]; omega
@[go_sem] theorem dlk6_8 (n : Nat) : decide (6 < n + 1 + 1 + 1 + 1 + 1 + 1 + 1 + 1) = true := by rw [decide_eq_true_iff]; omega
attribute [go_sem] Option.isSome_some List.cons_append List.append_assoc List.nil_append
theorem getLS {xs : List (List ByteArray)} {k : Nat} (h : k < xs.length) : xs[k]? = some (xs.getD k []) := by
 rw [List.getD_eq_getElem?_getD, List.getElem?_eq_getElem h]; rfl
theorem getS {xs : List ByteArray} {k : Nat} (h : k < xs.length) : xs[k]? = some xs[k] := List.getElem?_eq_getElem h
section
variable {V : VProg} (C : VCode V) {Q : VV → Prop}
include C
theorem lts_twice_v (l : List ByteArray) (hl : l.length ≤ 1000) (hn : l.Nodup) : VP V n_z76 [lS l] Q ↔ Q (.b false) := by
 refine VP_eq ?_
 rw [VP_fn C.c_z76.1 C.c_z76.2]
 simp only [f_z76, m_z76, go_sem, ↓reduceIte]
 refine vrange_rule (by decide) l.length (by omega) (I := fun k F h => h = [] ∧ VFr.tmp F 5 = lS l ∧ VFr.tmp F 0 = lS l) ?_ ?_ 0 _ _ (Nat.zero_le _) ?_ ?_ ?_
 ·rintro k F h hk h1 h2 ⟨rfl, h3, h4⟩
  have hx : ((l.take k).any fun y => decide (l[k] = y)) = false := by
   rw [List.any_eq_false]
   intro y hy e
   have e' : l[k] = y := by simpa using e
   obtain ⟨j, hj, ej⟩ := List.mem_iff_getElem.1 hy
   rw [List.getElem_take] at ej
   rw [List.length_take] at hj
   have := (List.getElem_inj hn).1 (ej.trans e'.symm)
   omega
  have hk' : k ≤ l.length := by omega
  simp only [m_z76, go_sem, ↓reduceIte, h1, h2, h3, h4, getS hk, hk', slices_Contains_sstring_string_v C (l.take k) _ (by simp; omega), hx, Int.toNat_natCast]
 ·rintro F h ⟨rfl, h3, h4⟩
  simp only [m_z76, go_sem, ↓reduceIte]
 all_goals simp only [go_sem, ↓reduceIte]
 all_goals rfl
theorem lts_value_v (t : Tree) (a n : Int) : VP V n_z117 [.fp (eLk t a) 0, .i .i64 n] Q ↔ Q (.b (valOk t n)) := by
 refine VP_eq ?_
 rw [VP_fn C.c_z117.1 C.c_z117.2]
 unfold valOk
 cases c0 : decide (0 ≤ n) <;> simp only [f_z117, m_z117, go_sem, ↓reduceIte, c0]
theorem lts_loc_v (t : Tree) (a n : Int) : VP V n_z161 [.fp (eLk t a) 0, .i .i64 n] Q ↔ Q (.b (locOk t n)) := by
 refine VP_eq ?_
 rw [VP_fn C.c_z161.1 C.c_z161.2]
 unfold locOk
 cases c0 : decide (0 ≤ n) <;> simp only [f_z161, m_z161, go_sem, ↓reduceIte, c0]
theorem lts_comes_v (t : Tree) (a u : Nat) (hu : u < t.nodes.length) : VP V n_z145 [.fp (eLk t a) 0, .i .i64 u] Q ↔ Q (.b (comesF t a u)) := by
 refine VP_eq ?_
 rw [VP_fn C.c_z145.1 C.c_z145.2]
 unfold comesF
 by_cases ha : a < t.nodes.length
 ·have ha' : (a : Int) < t.nodes.length := by omega
  cases c0 : decide ((t.at a).up = u) <;> simp only [f_z145, m_z145, go_sem, ↓reduceIte, ha, ha', at_get ha, at_get hu, c0, Int.toNat_natCast]
 ·have ha' : ¬ (a : Int) < t.nodes.length := by omega
  simp only [f_z145, m_z145, go_sem, ↓reduceIte, ha, ha']
theorem lts_ben1_v (t : Tree) (a n : Int) : VP V n_z147 [.i .i64 n, .fp [.fp (eLk t a) 0] 0] Q ↔ Q (.b (!valOk t n)) := by
 refine VP_eq ?_
 rw [VP_fn C.c_z147.1 C.c_z147.2]
 simp only [f_z147, m_z147, go_sem, ↓reduceIte, lts_value_v C]
/-- What the call on a node does. -/
def BenV (V : VProg) (t : Tree) (u e : Nat) : Prop := ∀ (a : Int) (r : VH), VP3 V n_z118 [.p 0 0 0 0, .i .i64 u] (LK t a :: r) fun v h => v = .b true ∧ h = LK t e :: r
theorem lts_alone_v (t : Tree) (hn : t.nodes.length ≤ 64) (u e : Nat) (hu : u + 1 < t.nodes.length) (ha : aloneOk t u = true) (hb : BenV V t (u + 1) e) (r : VH) :
  VP3 V n_z148 [.p 0 0 0 0, .i .i64 u] (LK t ((u + 1 : Nat) : Int) :: r) fun v h => v = .b true ∧ h = LK t e :: r := by
 rw [VP3_fn C.h_z148]
 have hu0 : u < t.nodes.length := by omega
 have hq := fun (r : VH) Q => VP3_eq (hb ((u + 1 : Nat) : Int) r) (Q := Q)
 unfold aloneOk at ha
 simp only [Bool.or_eq_true, Bool.and_eq_true, decide_eq_true_eq] at ha
 rcases ha with ⟨⟨⟨⟨⟨h1, h2⟩, h3⟩, h4⟩, h5⟩, h6⟩ | ⟨⟨⟨h1, h2⟩, h3⟩, h4⟩
 ·have h4' : (t.at (u + 1)).rmw = false := by simpa using h4
  have h5' : 0 ≤ (t.at (u + 1)).mode := by omega
  have h7 : ¬ (t.at (u + 1)).mode = 0 := by omega
  simp only [f_z148, mH_z148, go_sem, ↓reduceIte, at_get hu, at_get hu0, Int.toNat_natCast, h1, h2, h3, h4', h5', h6, h7, hq, Vc_block]
 ·have h1' : ¬ (t.at (u + 1)).kind = 4 := by omega
  cases hr : (t.at (u + 1)).rmw with
  | true =>
   rw [hr] at h4
   simp only [if_true, Bool.and_eq_true, decide_eq_true_eq] at h4
   obtain ⟨⟨⟨⟨g1, g2⟩, g3⟩, g4⟩, g5⟩ := h4
   simp only [f_z148, mH_z148, go_sem, ↓reduceIte, at_get hu, at_get hu0, Int.toNat_natCast, h1, h1', hr, lts_loc_v C, lts_value_v C, h2, h3, g1, g2, g3, g4, g5, hq, Vc_block, Int.reduceEq]
  | false =>
   rw [hr] at h4
   simp only [Bool.false_eq_true, if_false, Bool.or_eq_true, decide_eq_true_eq] at h4
   have g1 : 0 ≤ (t.at (u + 1)).mode := by omega
   have g2 : (t.at (u + 1)).mode ≤ 4 := by omega
   rcases h4 with (h4 | h4) | h4 <;>
   simp only [f_z148, mH_z148, go_sem, ↓reduceIte, at_get hu, at_get hu0, Int.toNat_natCast, h1, h1', hr, lts_loc_v C, lts_value_v C, h2, h3, g1, g2, h4, hq, Vc_block, Int.reduceEq, Int.reduceLE]
theorem lts_side_v (t : Tree) (hn : t.nodes.length ≤ 64) (u e : Nat) (hu : u < t.nodes.length) (vals : Nat) (k : Nat → Nat) (loc mode : Int) (hv : t.vals = vals) (hv0 : 0 < vals) (hv1 : vals ≤ 4) (hk0 : k 0 = u + 1) (hke : k vals = e) (hl : locOk t loc = true)
  (hs : ∀ v, v < vals → comesF t (k v) u = true ∧ sideOk t (k v) v loc mode = true ∧ BenV V t (k v) (k (v + 1)))
  (hm : (mode = 0 ∨ mode = 1 ∨ mode = 4) ∨ (0 ≤ mode ∧ mode ≤ 4 ∧ ∃ v, v < vals ∧ rmwF t (k v) = true)) (r : VH) :
  VP3 V n_z149 [.p 0 0 0 0, .i .i64 u] (LK t ((u + 1 : Nat) : Int) :: r) fun v h => v = .b true ∧ h = LK t e :: r := by
 rw [VP3_fn C.h_z149]
 have h0 := hs 0 hv0
 rw [hk0] at h0
 obtain ⟨c0, s0, _⟩ := h0
 have hu1 : u + 1 < t.nodes.length := by
  unfold comesF at c0
  simp only [Bool.and_eq_true, decide_eq_true_eq] at c0
  omega
 simp only [sideOk, Bool.and_eq_true, decide_eq_true_eq] at s0
 obtain ⟨⟨⟨⟨g1, g2⟩, g3⟩, g4⟩, g5⟩ := s0
 simp only [f_z149, mH_z149, go_sem, ↓reduceIte, at_get hu1, Int.toNat_natCast, hv]
 refine vrange_rule (by decide) vals (by omega) (I := fun v F h => h = LK t (k v) :: (r ++ [some ⟨T_api_Node, 0, 0, false, [eN (t.at (u + 1))]⟩]) ∧ VFr.tmp F 0 = .p 0 0 0 0 ∧ VFr.tmp F 1 = .i .i64 u ∧ VFr.tmp F 5 = .p (r.length + 1) 0 0 0 ∧ VFr.tmp F 6 = .b ((List.range v).any fun j => rmwF t (k j))) ?_ ?_ 0 _ _ (Nat.zero_le _) ?_ ?_ ?_
 ·rintro v F h hv2 p1 p2 ⟨rfl, p3, p4, p5, p6⟩
  obtain ⟨c1, s1, b1⟩ := hs v hv2
  have hq := fun (r : VH) Q => VP3_eq (b1 (k v) r) (Q := Q)
  have hkv : k v < t.nodes.length := by
   unfold comesF at c1
   simp only [Bool.and_eq_true, decide_eq_true_eq] at c1
   omega
  simp only [sideOk, Bool.and_eq_true, decide_eq_true_eq] at s1
  obtain ⟨⟨⟨⟨q1, q2⟩, q3⟩, q4⟩, q5⟩ := s1
  have q5' : (t.at (k v)).rmw = false := by simpa using q5
  have w1 := vwrap (show k v < 9223372036854775807 by omega)
  have hany : ((List.range (v + 1)).any fun j => rmwF t (k j)) = (((List.range v).any fun j => rmwF t (k j)) || rmwF t (k v)) := by
   rw [List.range_succ, List.any_append]; simp
  rw [hany]
  clear hany
  generalize ((List.range v).any fun j => rmwF t (k j)) = B at *
  by_cases z1 : k v + 1 < t.nodes.length
  ·have z1' : ((k v + 1 : Nat) : Int) < (t.nodes.length : Int) := by omega
   have z2 : decide (k v + 1 < t.nodes.length) = true := by simp [z1]
   unfold rmwF
   rw [z2]
   cases z3 : decide ((t.at (k v + 1)).up = (k v : Int)) <;> cases B <;>
    simp only [l0_z149, mH_z149, go_sem, ↓reduceIte, p1, p2, p3, p4, p5, p6, lts_comes_v C t _ u hu, c1, at_get hkv, at_get hu1, at_get z1, Int.toNat_natCast, q1, q2, q3, q4, q5', g1, g3, g4, hq, w1, z1', z3, List.length_append]
  ·have z1' : ¬ ((k v + 1 : Nat) : Int) < (t.nodes.length : Int) := by omega
   have z2 : decide (k v + 1 < t.nodes.length) = false := by simp [z1]
   unfold rmwF
   rw [z2]
   simp only [l0_z149, mH_z149, go_sem, ↓reduceIte, p1, p2, p3, p4, p5, p6, lts_comes_v C t _ u hu, c1, at_get hkv, at_get hu1, Int.toNat_natCast, q1, q2, q3, q4, q5', g1, g3, g4, hq, w1, z1']
 ·rintro F h ⟨rfl, p3, p4, p5, p6⟩
  rw [hke]
  rcases hm with hm | ⟨hm1, hm2, v, hv2, hm3⟩
  ·rcases hm with (hm | hm | hm) <;>
   simp only [mH_z149, go_sem, ↓reduceIte, p3, p4, p5, p6, g3, g4, hm, lts_loc_v C, hl, Int.reduceEq]
  ·have hany : ((List.range vals).any fun j => rmwF t (k j)) = true := any_range_t hv2 hm3
   rw [hany] at p6
   cases m0 : decide (mode = 0) <;> cases m1 : decide (mode = 1) <;> cases m2 : decide (mode = 4) <;>
   simp only [mH_z149, go_sem, ↓reduceIte, p3, p4, p5, p6, g3, g4, hm1, hm2, m0, m1, m2, lts_loc_v C, hl, Int.reduceEq]
 all_goals simp only [go_sem, ↓reduceIte]
 ·rfl
 ·simp only [hk0, eN, g1, g2, g3, g4, List.range_zero, List.any_nil, go_sem]
theorem lts_beneath_v (t : Tree) (hn : t.nodes.length ≤ 64) (h4 : t.vals ≤ 4) (hr : ∀ l ∈ t.regs, l.length ≤ 1000) : ∀ n u e, Ben t n u e → BenV V t u e := by
 intro n
 induction n with
 | zero => intro u e h; exact h.elim
 | succ n ih =>
  intro u e hb a r
  obtain ⟨⟨hu, ht0, ht1⟩, hb⟩ := hb
  rw [VP3_fn C.h_z118]
  have w1 := vwrap (show u < 9223372036854775807 by omega)
  obtain ⟨th, hth⟩ := Int.eq_ofNat_of_zero_le ht0
  have ht1' : th < t.regs.length := by omega
  rcases hb with ⟨c0, e0, rfl⟩ | ⟨c0, f0, r0, a0, b0⟩ | ⟨c0, f0, r0, vals, k, loc, mode, hv, hv0, hk0, hke, hl, hs, hm⟩
  ·simp only [endOk, Bool.and_eq_true, decide_eq_true_eq] at e0
   obtain ⟨⟨g1, g2⟩, g3⟩ := e0
   rw [hth, Int.toNat_natCast] at g2
   have hall : ((t.at u).regs.any fun v => !valOk t v) = false := by
    rw [List.any_eq_false]
    intro x hx
    rw [List.all_eq_true] at g3
    simp [g3 x hx]
   have hrl : (t.regs.getD th []).length ≤ 1000 := by
    by_cases z : th < t.regs.length
    ·exact hr _ (getD_mem' z)
    ·omega
   have hcf := fun (a : Int) Q => slices_ContainsFunc_sint_int_v C (t.at u).regs (by omega) (g := n_z147) (a := []) (c := [.fp [.fp (eLk t a) 0] 0]) Fz.nil (fun _ _ => rfl) (fun x => !valOk t x) (fun x => (lts_ben1_v C t a x).2 rfl) (Q := Q)
   simp only [f_z118, mH_z118, go_sem, ↓reduceIte, w1, lts_comes_v C t _ u hu, c0, at_get hu, Int.toNat_natCast, g1, g2, hth, getLS ht1', hcf, hall]
  ·have hu1 : u + 1 < t.nodes.length := by
    unfold comesF at c0
    simp only [Bool.and_eq_true, decide_eq_true_eq] at c0
    omega
   have hq := fun (r : VH) Q => VP3_eq (lts_alone_v C t hn u e hu1 a0 (ih _ _ b0) r) (Q := Q)
   have hk2 : ¬ (t.at (u + 1)).kind = 2 := by
    unfold aloneOk at a0
    simp only [Bool.or_eq_true, Bool.and_eq_true, decide_eq_true_eq] at a0
    rcases a0 with ⟨⟨⟨⟨⟨h1, h2⟩, h3⟩, h4⟩, h5⟩, h6⟩ | ⟨⟨⟨h1, h2⟩, h3⟩, h4⟩ <;> omega
   simp only [f_z118, mH_z118, go_sem, ↓reduceIte, w1, lts_comes_v C t _ u hu, c0, at_get hu, at_get hu1, Int.toNat_natCast, f0, r0, hk2, hq]
  ·have h0 := hs 0 hv0
   rw [hk0] at h0
   have hu1 : u + 1 < t.nodes.length := by
    unfold comesF at c0
    simp only [Bool.and_eq_true, decide_eq_true_eq] at c0
    omega
   have hk2 : (t.at (u + 1)).kind = 2 := by
    have := h0.2.1
    simp only [sideOk, Bool.and_eq_true, decide_eq_true_eq] at this
    exact this.1.1.1.1
   have hq := fun (r : VH) Q => VP3_eq (lts_side_v C t hn u e hu vals k loc mode hv hv0 (by omega) hk0 hke hl (fun v hv => ⟨(hs v hv).1, (hs v hv).2.1, ih _ _ (hs v hv).2.2⟩) hm r) (Q := Q)
   simp only [f_z118, mH_z118, go_sem, ↓reduceIte, w1, lts_comes_v C t _ u hu, c0, at_get hu, at_get hu1, Int.toNat_natCast, f0, r0, hk2, hq]
theorem lts_first_v (t : Tree) (hn : t.nodes.length ≤ 64) (hl : t.locs.length ≤ t.nodes.length) (hi : ∀ i, i < t.locs.length → initOk t i = true) (r : VH) :
  VP3 V n_z77 [.p 0 0 0 0] (LK t 0 :: r) fun v h => v = .b true ∧ h = LK t t.locs.length :: r := by
 rw [VP3_fn C.h_z77]
 simp only [f_z77, mH_z77, go_sem, ↓reduceIte]
 unfold VL
 rw [Vc_block]
 refine Vc_loop_inv (M := Nat) (I := fun k F h => k ≤ t.locs.length ∧ h = LK t (k : Int) :: r ∧ VFr.tmp F 0 = .p 0 0 0 0) (μ := fun k => t.locs.length - k) ?_ 0 _ _ ⟨Nat.zero_le _, rfl, ?_⟩
 ·rintro k F h ⟨hk, rfl, p1⟩
  by_cases hkl : k < t.locs.length
  ·have hkl' : (k : Int) < t.locs.length := by omega
   have hkn : k < t.nodes.length := by omega
   have hkn' : ¬ (t.nodes.length : Int) ≤ k := by omega
   have w1 := vwrap (show k < 9223372036854775807 by omega)
   have := hi k hkl
   unfold initOk at this
   simp only [Bool.and_eq_true, decide_eq_true_eq] at this
   obtain ⟨⟨⟨⟨⟨⟨⟨⟨g1, g2⟩, g3⟩, g4⟩, g5⟩, g6⟩, g7⟩, g8⟩, g9⟩ := this
   have g7' : (t.at k).rmw = false := by simpa using g7
   have g8' : (t.at k).fin = false := by simpa using g8
   simp only [l0_z77, mH_z77, go_sem, ↓reduceIte, p1, hkl', hkn', at_get hkn, Int.toNat_natCast, g1, g2, g3, g4, g5, g6, g7', g8', g9, lts_value_v C, w1, Vc_block]
   exact ⟨k + 1, by omega, by omega, rfl⟩
  ·have hke : k = t.locs.length := by omega
   subst hke
   simp only [l0_z77, mH_z77, go_sem, ↓reduceIte, p1, Vc_block]
 all_goals simp only [go_sem, ↓reduceIte]
theorem lts_threads_v (t : Tree) (hn : t.nodes.length ≤ 64) (h4 : t.vals ≤ 4) (hr : ∀ l ∈ t.regs, l.length ≤ 1000) (hr4 : t.regs.length ≤ 4) (s : Nat → Nat) (hs0 : s 0 = t.locs.length) (hse : s t.regs.length = t.nodes.length)
  (hs : ∀ i, i < t.regs.length → beginOk t (s i) i = true ∧ ∃ n, Ben t n (s i) (s (i + 1))) (r : VH) :
  VP3 V n_z78 [.p 0 0 0 0] (LK t t.locs.length :: r) fun v h => v = .b true ∧ h = LK t t.nodes.length :: r := by
 rw [VP3_fn C.h_z78]
 simp only [f_z78, mH_z78, go_sem, ↓reduceIte]
 refine vrange_rule (by decide) t.regs.length (by omega) (I := fun i F h => h = LK t (s i) :: r ∧ VFr.tmp F 0 = .p 0 0 0 0) ?_ ?_ 0 _ _ (Nat.zero_le _) ?_ ?_ ?_
 ·rintro i F h hi h1 h2 ⟨rfl, p1⟩
  obtain ⟨b0, nn, b1⟩ := hs i hi
  have hu : s i < t.nodes.length := by
   cases nn with
   | zero => exact b1.elim
   | succ nn => exact b1.1.1
  have hu' : ¬ (t.nodes.length : Int) ≤ s i := by omega
  have hq := fun (r : VH) Q => VP3_eq (lts_beneath_v C t hn h4 hr _ _ _ b1 (s i) r) (Q := Q)
  unfold beginOk at b0
  simp only [Bool.and_eq_true, decide_eq_true_eq] at b0
  obtain ⟨⟨⟨⟨⟨⟨g1, g2⟩, g3⟩, g4⟩, g5⟩, g6⟩, g7⟩ := b0
  have g7' : (t.at (s i)).rmw = false := by simpa using g7
  simp only [l0_z78, mH_z78, go_sem, ↓reduceIte, h1, h2, p1, hu', at_get hu, Int.toNat_natCast, g1, g2, g3, g4, g5, g6, g7', hq]
 ·rintro F h ⟨rfl, p1⟩
  rw [hse]
  simp only [mH_z78, go_sem, ↓reduceIte, p1]
 all_goals simp only [go_sem, ↓reduceIte, hs0]
 all_goals rfl
theorem lts_May_v (t : Tree) (h : TreeOk t) : VP V n_z33 [vT t] Q ↔ Q (.b true) := by
 refine VP_eq ?_
 rw [VP_fn C.c_z33.1 C.c_z33.2]
 have a1 := h.v2
 have a2 := h.v4
 have a3 := h.l4
 have a4 := h.n64
 have a5 := h.r1
 have a6 := h.r4
 have b1 : ¬ t.vals < 2 := by omega
 have b2 : ¬ 4 < t.vals := by omega
 have b3 : ¬ (4 : Int) < t.locs.length := by omega
 have b4 : ¬ (64 : Int) < t.nodes.length := by omega
 have b5 : ¬ (t.regs.length : Int) < 1 := by omega
 have b6 : ¬ (4 : Int) < t.regs.length := by omega
 obtain ⟨s, s0, se, hs⟩ := h.thr
 have hrl : ∀ l ∈ t.regs, l.length ≤ 1000 := fun l hl => by have := (h.rl l hl).1; omega
 have q1 := fun (r : VH) Q => VP3_eq (lts_first_v C t h.n64 h.first.1 h.first.2 r) (Q := Q)
 have q2 := fun (r : VH) Q => VP3_eq (lts_threads_v C t h.n64 h.v4 hrl h.r4 s s0 se hs r) (Q := Q)
 simp only [f_z33, m_z33, go_sem, ↓reduceIte, b1, b2, b3, b4, b5, b6, lts_twice_v C t.locs (by omega) h.ln]
 refine vrange_rule (by decide) t.regs.length (by omega) (I := fun i F h => h = [] ∧ VFr.tmp F 1 = .fp (eT t) 0 ∧ VFr.tmp F 42 = .ls (t.regs.map eLS)) ?_ ?_ 0 _ _ (Nat.zero_le _) ?_ ?_ ?_
 ·rintro i F hh hi h1 h2 ⟨rfl, p1, p2⟩
  have hm := h.rl _ (getD_mem' (d := []) hi)
  have hb : ¬ (4 : Int) < (t.regs.getD i []).length := by omega
  simp only [l0_z33, m_z33, go_sem, ↓reduceIte, h1, h2, p1, p2, getLS hi, hb, lts_twice_v C (t.regs.getD i []) (by omega) hm.2]
 ·rintro F hh ⟨rfl, p1, p2⟩
  simp only [m_z33, go_sem, ↓reduceIte, p1, q1, q2]
 all_goals simp only [go_sem, ↓reduceIte]
 all_goals rfl
end
end Go.AM

namespace Go.AM
open Go Go.Proofs
attribute [go_sem] Int.reduceLE Int.reduceLT Int.reduceEq Int.reduceToNat Int.reduceNeg Int.le_refl Int.toNat_natCast Int.cast_ofNat_Int
section
variable {V : VProg} (C : VCode V) {Q : VV → Prop}
include C
theorem ref5_In_v (v n : Int) (h1 : 1 ≤ n) (h2 : n ≤ 2147483648) : VP V n_z131 [.i .i64 v, .i .i64 n] Q ↔ Q (.i .i64 (v % n)) := by
 refine VP_eq ?_
 rw [VP_fn C.c_z131.1 C.c_z131.2]
 have c1 : ¬ n < 1 := by omega
 have c2 : ¬ 2147483648 < n := by omega
 obtain ⟨t1, t2⟩ := tmod_in (v := v) (show 0 < n by omega)
 by_cases c : v.tmod n < 0
 ·obtain ⟨t3, t4⟩ := t1 c
  have w : IntKind.i64.wrap (v.tmod n + n) = v % n := by rw [wrap_i64 (by omega) (by omega), t3]
  simp only [f_z131, m_z131, go_sem, ↓reduceIte, c1, c2, vbin_rem (show n ≠ 0 by omega), c, w]
 ·have c' : ¬ v % n < 0 := by rw [← t2 c]; exact c
  simp only [f_z131, m_z131, go_sem, ↓reduceIte, c1, c2, vbin_rem (show n ≠ 0 by omega), t2 c, c']
theorem ref9_Place_v (xs : List ByteArray) (n : ByteArray) (hl : xs.length ≤ 1000) : VP V n_z128 [lS xs, .s n] Q ↔ Q (.i .i64 (fIdx (fun y => decide (n = y)) xs)) := by
 refine VP_eq ?_
 rw [VP_fn C.c_z128.1 C.c_z128.2]
 simp only [f_z128, m_z128, go_sem, ↓reduceIte]
 refine vfor_rule (by decide) xs.length (by omega) (I := fun k F h => h = [] ∧ VFr.tmp F 0 = lS xs ∧ VFr.tmp F 1 = .s n ∧ ∀ (j : Nat) (hj : j < xs.length), j < k → ¬ n = xs[j]) ?_ ?_ ?_ 0 _ _ (Nat.zero_le _) ?_ ?_
 ·rintro k F h hk p1 ⟨rfl, p2, p3, p4⟩
  simp only [m_z128, go_sem, ↓reduceIte, p1, p2, p3]
  exact p4
 ·rintro k F h hk p1 ⟨rfl, p2, p3, p4⟩
  by_cases e : xs[k] = n
  ·simp only [m_z128, go_sem, ↓reduceIte, p1, p2, p3, getS hk, e]
   rw [fIdx_some hk (by simp [e]) fun j hj => by simpa using p4 j (by omega) hj]
  ·simp only [m_z128, go_sem, ↓reduceIte, p1, p2, p3, getS hk, e]
   intro j hj hjk
   by_cases e2 : j = k
   ·subst e2; exact fun h => e h.symm
   ·exact p4 j hj (by omega)
 ·rintro F h ⟨rfl, p2, p3, p4⟩
  simp only [m_z128, go_sem, ↓reduceIte]
  rw [fIdx_none fun x hx => by obtain ⟨j, hj, e⟩ := List.mem_iff_getElem.1 hx; rw [← e]; simpa using p4 j hj hj]
 all_goals simp only [go_sem, ↓reduceIte]
 all_goals first | rfl | (intro j hj hjk; omega)
theorem ref9_In_v (xs : List ByteArray) (n : ByteArray) (hl : xs.length ≤ 1000) : VP V n_z122 [lS xs, .s n] Q ↔ Q (.b (xs.any fun y => decide (n = y))) := by
 refine VP_eq ?_
 rw [VP_fn C.c_z122.1 C.c_z122.2]
 simp only [f_z122, m_z122, go_sem, ↓reduceIte, ref9_Place_v C xs n hl, fIdx_ge]
theorem ref9_asked_v (r : List VV) (h : GE r) : VP V n_z166 [.ag r] fun x => ∃ k : Int, x = .i .i64 k := by
 induction h with
 | mk op n nm kids hl hk ih =>
  rw [VP_fn C.c_z166.1 C.c_z166.2]
  simp only [f_z166, m_z166, go_sem, ↓reduceIte]
  by_cases ho : op = 1 ∨ op = 2
  ·unfold VL
   rw [Vc_block]
   refine Vc_loop_inv (M := Nat) (I := fun k F h => h = [] ∧ VFr.tmp F 1 = .fp [.i .i64 op, .i .i64 n, .s nm, .ls kids] 0 ∧ VFr.tmp F 4 = .i .i64 0 ∧ VFr.tmp F 3 = .i .i64 0) (μ := fun k => k) ?_ 0 _ _ ⟨rfl, ?_, ?_, ?_⟩
   ·rintro k F h ⟨rfl, p1, p2, p3⟩
    cases c0 : decide ((0 : Int) < kids.length) <;> rcases ho with ho | ho <;>
     simp only [l0_z166, m_z166, go_sem, ↓reduceIte, p1, p2, p3, c0, ho, Int.reduceEq, Vc_block] <;> exact ⟨_, rfl⟩
   all_goals simp only [go_sem, ↓reduceIte]
  ·have o1 : ¬ op = 1 := fun h => ho (.inl h)
   have o2 : ¬ op = 2 := fun h => ho (.inr h)
   refine vfor_rule (by decide) kids.length (by omega) (I := fun k F h => h = [] ∧ VFr.tmp F 1 = .fp [.i .i64 op, .i .i64 n, .s nm, .ls kids] 0 ∧ ∃ d : Int, VFr.tmp F 3 = .i .i64 d) ?_ ?_ ?_ 0 _ _ (Nat.zero_le _) ?_ ?_
   ·rintro k F h hk' p1 ⟨rfl, p2, d, p3⟩
    cases c0 : decide ((k : Int) < kids.length)
    ·have : decide (k < kids.length) = false := by simp at c0 ⊢; omega
     simp only [m_z166, go_sem, ↓reduceIte, p1, p2, p3, o1, o2, c0, this]
     try exact ⟨d, rfl⟩
    ·have : decide (k < kids.length) = true := by simp at c0 ⊢; omega
     simp only [m_z166, go_sem, ↓reduceIte, p1, p2, p3, o1, o2, c0, this]
     try exact ⟨d, rfl⟩
   ·rintro k F h hk' p1 ⟨rfl, p2, d, p3⟩
    have hg := hk _ (List.getElem_mem hk')
    simp only [m_z166, go_sem, ↓reduceIte, p1, p2, p3, getR hk', hg.len, hg.take, hg.frz]
    refine (ih _ (List.getElem_mem hk')).mono ?_
    rintro _ ⟨e, rfl⟩
    cases c0 : decide (d < e) <;>
    simp only [m_z166, go_sem, ↓reduceIte, p1, p2, p3, c0] <;> exact ⟨_, rfl⟩
   ·rintro F h ⟨rfl, p2, d, p3⟩
    simp only [m_z166, go_sem, ↓reduceIte, p3]
    try exact ⟨_, rfl⟩
   all_goals simp only [go_sem, ↓reduceIte]
   all_goals first | rfl | exact ⟨_, rfl⟩
theorem ref9_value_v (regs : List ByteArray) (vals : List Int) (hr : regs.length ≤ 1000) (hl : vals.length = regs.length) (n : Int) (h1 : 2 ≤ n) (h2 : n ≤ 2147483648) (r : List VV) (h : GE r) :
  VP V n_z167 [.ag r, lS regs, lI vals, .i .i64 n] fun x => ∃ (k : Int) (b : Bool), x = .tu [.i .i64 k, .b b] ∧ 0 ≤ k ∧ k < n := by
 have hin : ∀ v : Int, 0 ≤ v % n ∧ v % n < n := fun v => ⟨Int.emod_nonneg v (by omega), Int.emod_lt_of_pos v (by omega)⟩
 have q5 := fun v Q => ref5_In_v C v n (by omega) h2 (Q := Q)
 induction h with
 | mk op m nm kids hkl hk ih =>
  rw [VP_fn C.c_z167.1 C.c_z167.2]
  by_cases o1 : op = 1
  ·simp only [f_z167, m_z167, go_sem, ↓reduceIte, o1, Vc_block, q5]
   exact ⟨_, _, rfl, hin m⟩
  by_cases o2 : op = 2
  ·cases c0 : regs.any fun y => decide (nm = y) with
   | false =>
    have e := fIdx_neg c0
    simp only [f_z167, m_z167, go_sem, ↓reduceIte, o2, Vc_block, q5, Int.reduceEq, ref9_Place_v C regs nm hr, e, Int.reduceLT, Int.reduceNeg]
    exact ⟨_, _, rfl, by omega, by omega⟩
   | true =>
    obtain ⟨k, e, hk', _⟩ := fIdx_nat c0
    have hk2 : k < vals.length := by omega
    have hk3 : ¬ (k : Int) < 0 := by omega
    simp only [f_z167, m_z167, go_sem, ↓reduceIte, o2, Vc_block, q5, Int.reduceEq, ref9_Place_v C regs nm hr, e, hk3, getI hk2]
    exact ⟨_, _, rfl, hin _⟩
  by_cases o3 : op < 3
  ·simp only [f_z167, m_z167, go_sem, ↓reduceIte, o1, o2, o3, Vc_block]
   exact ⟨_, _, rfl, by omega, by omega⟩
  by_cases o4 : 6 < op
  ·simp only [f_z167, m_z167, go_sem, ↓reduceIte, o1, o2, o3, o4, Vc_block]
   exact ⟨_, _, rfl, by omega, by omega⟩
  by_cases o5 : (kids.length : Int) = 2
  ·obtain ⟨a, b, rfl⟩ : ∃ a b, kids = [a, b] := by
    rcases kids with _ | ⟨a, _ | ⟨b, _ | ⟨c, l⟩⟩⟩
    ·simp at o5
    ·simp at o5
    ·exact ⟨a, b, rfl⟩
    ·simp at o5; omega
   have ga := hk a (by simp)
   have gb := hk b (by simp)
   simp only [f_z167, m_z167, go_sem, ↓reduceIte, o1, o2, o3, o4, o5, Vc_block, ga.len, ga.take, ga.frz, gb.len, gb.take, gb.frz, Int.reduceEq, Int.cast_ofNat_Int]
   refine (ih a (by simp)).mono ?_
   rintro _ ⟨ka, ba, rfl, _, _⟩
   simp only [m_z167, go_sem, ↓reduceIte, gb.len, gb.take, gb.frz]
   refine (ih b (by simp)).mono ?_
   rintro _ ⟨kb, bb, rfl, _, _⟩
   have hop : op = 3 ∨ op = 4 ∨ op = 5 ∨ op = 6 := by omega
   cases ba with
   | false =>
    simp only [m_z167, go_sem, ↓reduceIte]
    exact ⟨_, _, rfl, by omega, by omega⟩
   | true =>
    cases bb with
    | false =>
     simp only [m_z167, go_sem, ↓reduceIte]
     exact ⟨_, _, rfl, by omega, by omega⟩
    | true =>
     rcases hop with rfl | rfl | rfl | rfl
     ·simp only [m_z167, go_sem, ↓reduceIte, Vc_block, q5, Int.reduceEq]
      exact ⟨_, _, rfl, hin _⟩
     ·simp only [m_z167, go_sem, ↓reduceIte, Vc_block, q5, Int.reduceEq]
      exact ⟨_, _, rfl, hin _⟩
     ·cases c0 : decide (ka = kb) <;>
      simp only [m_z167, go_sem, ↓reduceIte, Vc_block, q5, Int.reduceEq, c0] <;>
      exact ⟨_, _, rfl, by omega, by omega⟩
     ·cases c0 : decide (ka < kb) <;>
      simp only [m_z167, go_sem, ↓reduceIte, Vc_block, q5, Int.reduceEq, c0] <;>
      exact ⟨_, _, rfl, by omega, by omega⟩
  ·simp only [f_z167, m_z167, go_sem, ↓reduceIte, o1, o2, o3, o4, o5, Vc_block]
   exact ⟨_, _, rfl, by omega, by omega⟩
theorem ref9_Expr_v (regs : List ByteArray) (vals : List Int) (hr : regs.length ≤ 1000) (hl : vals.length = regs.length) (n : Int) (h1 : 2 ≤ n) (h2 : n ≤ 4) (r : List VV) (h : GE r) :
  VP V n_z155 [.ag r, lS regs, lI vals, .i .i64 n] fun x => ∃ (k : Int) (b : Bool), x = .tu [.i .i64 k, .b b] ∧ 0 ≤ k ∧ k < n := by
 have c1 : ¬ n < 2 := by omega
 have c2 : ¬ 4 < n := by omega
 have c3 : (regs.length : Int) = vals.length := by omega
 rw [VP_fn C.c_z155.1 C.c_z155.2]
 have hb : ∀ L, belL L r = true := fun L => by cases h; rfl
 simp only [f_z155, m_z155, go_sem, ↓reduceIte, c1, c2, c3, h.len, h.take, h.frz, h.cell]
 refine (ref9_asked_v C r h).mono ?_
 rintro _ ⟨k, rfl⟩
 cases c0 : decide (6 < k) with
 | true =>
  simp only [m_z155, go_sem, ↓reduceIte, c0]
  exact ⟨_, _, rfl, by omega, by omega⟩
 | false =>
  simp only [m_z155, go_sem, ↓reduceIte, c0, h.len, h.take, h.frz]
  refine (ref9_value_v C regs vals hr hl n h1 (by omega) r h).mono ?_
  rintro _ ⟨k, b, rfl, hk⟩
  simp only [m_z155, go_sem, ↓reduceIte]
  exact ⟨_, _, rfl, hk⟩
theorem ref9_sets_v (k : Int) : VP V n_z154 [.i .i64 k] Q ↔ Q (.b (setsF k)) := by
 refine VP_eq ?_
 rw [VP_fn C.c_z154.1 C.c_z154.2]
 unfold setsF
 cases c1 : decide (k = 1) <;> cases c2 : decide (k = 2) <;> cases c3 : decide (k = 4) <;>
 simp only [f_z154, m_z154, go_sem, ↓reduceIte, c1, c2, c3]
/-- What names come of statements. -/
def AddV (V : VProg) (l : List (List VV)) : Prop := ∀ out : List ByteArray, out.Nodup → (∀ n ∈ out, n ∈ N4) → VP V n_z126 [lS out, .ls l] fun x => ∃ o : List ByteArray, x = lS o ∧ o.Nodup ∧ (∀ n ∈ out, n ∈ o) ∧ (∀ n ∈ o, n ∈ N4) ∧ ∀ r ∈ l, RI o r
omit C in
theorem nodup4 {o : List ByteArray} (h : o.Nodup) (h4 : ∀ n ∈ o, n ∈ N4) : o.length ≤ 4 := List.Nodup.length_le_of_subset h h4
theorem ref9_add_list (l : List (List VV)) (hl : l.length ≤ 1000) (hs : ∀ s ∈ l, ∃ kind mode reg loc args th el, s = rS kind mode reg loc args th el ∧ (setsF kind = true → reg ∈ N4) ∧ AddV V th ∧ AddV V el) : AddV V l := by
 intro out hn h4
 rw [VP_fn C.c_z126.1 C.c_z126.2]
 simp only [f_z126, m_z126, go_sem, ↓reduceIte]
 refine vfor_rule (by decide) l.length (by omega) (I := fun k F h => h = [] ∧ VFr.tmp F 1 = .ls l ∧ ∃ o : List ByteArray, VFr.tmp F 0 = lS o ∧ o.Nodup ∧ (∀ n ∈ out, n ∈ o) ∧ (∀ n ∈ o, n ∈ N4) ∧ ∀ j (hj : j < l.length), j < k → RI o l[j]) ?_ ?_ ?_ 0 _ _ (Nat.zero_le _) ?_ ?_
 ·rintro k F h hk p1 ⟨rfl, p2, o, p3, p4⟩
  simp only [m_z126, go_sem, ↓reduceIte, p1, p2, p3]
  exact ⟨o, rfl, p4⟩
 ·rintro k F h hk p1 ⟨rfl, p2, o, p3, p4, p5, p6, p7⟩
  obtain ⟨kind, mode, reg, loc, args, th, el, e, hreg, a1, a2⟩ := hs _ (List.getElem_mem hk)
  have ho := nodup4 p4 p6
  have hk2 := getR hk
  rw [e] at hk2
  have fin : ∀ o2 : List ByteArray, o2.Nodup → (∀ n ∈ o, n ∈ o2) → (∀ n ∈ o2, n ∈ N4) → (setsF kind = true → reg ∈ o2) → VP V n_z126 [lS o2, .ls th] fun x => ∃ o3 : List ByteArray, x = lS o3 ∧ VP V n_z126 [lS o3, .ls el] fun x => ∃ o4 : List ByteArray, x = lS o4 ∧ o4.Nodup ∧ (∀ n ∈ out, n ∈ o4) ∧ (∀ n ∈ o4, n ∈ N4) ∧ ∀ j (hj : j < l.length), j < k + 1 → RI o4 l[j] := by
   intro o2 g1 g2 g3 g4
   refine (a1 o2 g1 g3).mono ?_
   rintro _ ⟨o3, rfl, q1, q2, q3, q4⟩
   refine ⟨o3, rfl, (a2 o3 q1 q3).mono ?_⟩
   rintro _ ⟨o4, rfl, r1, r2, r3, r4⟩
   refine ⟨o4, rfl, r1, fun n hn => r2 _ (q2 _ (g2 _ (p5 _ hn))), r3, fun j hj hjk => ?_⟩
   by_cases ej : j = k
   ·subst ej
    rw [e]
    exact .mk _ _ _ _ _ _ _ (fun h => r2 _ (q2 _ (g4 h))) (fun s hs => (q4 s hs).mono r2) r4
   ·exact (p7 j hj (by omega)).mono fun n hn => r2 _ (q2 _ (g2 _ hn))
  cases c0 : setsF kind with
  | false =>
   simp only [m_z126, go_sem, ↓reduceIte, p1, p2, p3, hk2, ref9_sets_v C, c0]
   refine (fin o p4 (fun n h => h) p6 (fun h => by rw [c0] at h; cases h)).mono ?_
   rintro _ ⟨o3, rfl, hv⟩
   simp only [m_z126, go_sem, ↓reduceIte, p1, p2, p3, hk2]
   refine hv.mono ?_
   rintro _ ⟨o4, rfl, hv⟩
   simp only [m_z126, go_sem, ↓reduceIte, p1, p2, p3, hk2]
   exact ⟨o4, rfl, hv⟩
  | true =>
   cases c1 : o.any fun y => decide (reg = y) with
   | true =>
    have hreg2 : reg ∈ o := by
     rw [List.any_eq_true] at c1
     obtain ⟨x, hx, e⟩ := c1
     rw [of_decide_eq_true e]; exact hx
    simp only [m_z126, go_sem, ↓reduceIte, p1, p2, p3, hk2, ref9_sets_v C, c0, ref9_In_v C o reg (by omega), c1]
    refine (fin o p4 (fun n h => h) p6 (fun h => hreg2)).mono ?_
    rintro _ ⟨o3, rfl, hv⟩
    simp only [m_z126, go_sem, ↓reduceIte, p1, p2, p3, hk2]
    refine hv.mono ?_
    rintro _ ⟨o4, rfl, hv⟩
    simp only [m_z126, go_sem, ↓reduceIte, p1, p2, p3, hk2]
    exact ⟨o4, rfl, hv⟩
   | false =>
    have hreg2 : reg ∉ o := by
     intro h
     rw [List.any_eq_false] at c1
     simpa using c1 reg h
    have nd : (o ++ [reg]).Nodup := List.nodup_append.2 ⟨p4, by simp, by intro a ha b hb; simp at hb; subst hb; intro e; subst e; exact hreg2 ha⟩
    have sub : ∀ n ∈ o ++ [reg], n ∈ N4 := fun n hn => by
     rcases List.mem_append.1 hn with h | h
     ·exact p6 n h
     ·rw [List.mem_singleton.1 h]; exact hreg c0
    have f2 := fin (o ++ [reg]) nd (fun n h => List.mem_append_left _ h) sub (fun _ => by simp)
    have b0 : o.length * 16 ≤ two47 := by unfold two47; omega
    have b1 : (o.length + 1) * 16 ≤ two47 := by unfold two47; omega
    simp only [m_z126, go_sem, ↓reduceIte, p1, p2, p3, hk2, ref9_sets_v C, c0, ref9_In_v C o reg (by omega), c1, b0, b1]
    refine f2.mono ?_
    rintro _ ⟨o3, rfl, hv⟩
    simp only [m_z126, go_sem, ↓reduceIte, p1, p2, p3, hk2]
    refine hv.mono ?_
    rintro _ ⟨o4, rfl, hv⟩
    simp only [m_z126, go_sem, ↓reduceIte, p1, p2, p3, hk2]
    exact ⟨o4, rfl, hv⟩
 ·rintro F h ⟨rfl, p2, o, p3, p4, p5, p6, p7⟩
  simp only [m_z126, go_sem, ↓reduceIte, p3]
  refine ⟨o, rfl, p4, p5, p6, fun r hr => ?_⟩
  obtain ⟨j, hj, rfl⟩ := List.mem_iff_getElem.1 hr
  exact p7 j hj hj
 all_goals simp only [go_sem, ↓reduceIte]
 exact ⟨out, rfl, hn, fun n h => h, h4, fun j hj hjk => by omega⟩
theorem ref9_add_GS {locs : List ByteArray} {r : List VV} (h : GS locs r) : ∃ kind mode reg loc args th el, r = rS kind mode reg loc args th el ∧ (setsF kind = true → reg ∈ N4) ∧ AddV V th ∧ AddV V el := by
 induction h with
 | mk kind mode reg loc args th el h1 h2 h3 h4 h5 h6 h7 ih1 ih2 => exact ⟨kind, mode, reg, loc, args, th, el, rfl, h7.rn, ref9_add_list C th h3 ih1, ref9_add_list C el h4 ih2⟩
theorem ref9_Regs_v {locs : List ByteArray} (l : List (List VV)) (hl : l.length ≤ 1000) (h : ∀ s ∈ l, GS locs s) : VP V n_z83 [.ls l] fun x => ∃ o : List ByteArray, x = lS o ∧ o.Nodup ∧ (∀ n ∈ o, n ∈ N4) ∧ ∀ r ∈ l, RI o r := by
 rw [VP_fn C.c_z83.1 C.c_z83.2]
 simp only [f_z83, m_z83, go_sem, ↓reduceIte]
 refine (ref9_add_list C l hl (fun s hs => ref9_add_GS C (h s hs)) [] (by simp) (by simp)).mono ?_
 rintro _ ⟨o, rfl, h1, h2, h3, h4⟩
 simp only [m_z83, go_sem, ↓reduceIte]
 exact ⟨o, rfl, h1, h3, h4⟩
end
end Go.AM
