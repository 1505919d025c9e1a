/-
  Own work, part of the proof of CoheLess: what functions compute (fifth part), and the law itself.
-/
import Derived.Test.YtpcpldaangchaaaGreatDoorKD
set_option maxRecDepth 4000
set_option linter.unusedVariables false
set_option linter.unusedSimpArgs false
set_option linter.unusedSectionVars false
set_option linter.unnecessarySimpa false
namespace Go.AM
open Go Go.Proofs
section
variable {V : Ao} {m : Nat → Nat} {Q : Ex → A3 → VH → Prop}
/-- A loop whose rounds leave behind what they laid. -/
theorem S9 {M : Type} (I : M → A3 → VH → Prop) (μ : M → Nat) {c : A1}
  (k : ∀ x F h, I x F h → Vc V m c F h (fun e F' h' => match e with | .norm => ¬ KW h.length h h' ∧ ∃ x', μ x' < μ x ∧ I x' F' h' | e => Q e F' h')) : ∀ x F h, I x F h → Vc V m (.loop c) F h Q := by
 have key : ∀ j x F h, μ x ≤ j → I x F h → Vc V m (.loop c) F h Q := by
  intro j
  induction j with
  | zero =>
   intro x F h hj hi
   rw [NL]
   refine (k x F h hi).mono fun e F' h' hq => ?_
   cases e with
   | norm => obtain ⟨_, x', h1, _⟩ := hq; omega
   | _ => exact hq
  | succ j ih =>
   intro x F h hj hi
   rw [NL]
   refine (k x F h hi).mono fun e F' h' hq => ?_
   cases e with
   | norm =>
    obtain ⟨h0, x', h1, h2⟩ := hq
    unfold gcF gcH
    rw [if_neg h0, if_neg h0]
    exact ih x' _ _ (by omega) h2
   | _ => exact hq
 exact fun x F h hi => key _ x F h (Nat.le_refl _) hi
end
abbrev i7 (n : Nat) : Nat := n + 1 + 1 + 1 + 1 + 1 + 1 + 1
/-- What a copy lays for each location. -/
def HZ (mo : List (List (List Int))) : Nat → VH
 | 0 => []
 | k + 1 => HZ mo k ++ [some (AP E4 1 ((mo.getD k []).map Kr)), some ⟨Be, 1, 0, false, [[.sl (i7 (2 * k)) (mo.getD k []).length 0 (mo.getD k []).length]]⟩]
theorem Cv (mo : List (List (List Int))) : ∀ k, (HZ mo k).length = 2 * k
 | 0 => rfl
 | k + 1 => by rw [HZ, List.length_append, Cv mo k]; simp; omega
def DX (mo : List (List (List Int))) (k : Nat) : List (List VV) := (List.range k).map fun i => [.sl (i7 (2 * i)) (mo.getD i []).length 0 (mo.getD i []).length]
theorem Uk (mo : List (List (List Int))) (k : Nat) : (DX mo k).length = k := by simp [DX]
theorem A5Y (mo : List (List (List Int))) (k : Nat) : DX mo (k + 1) = DX mo k ++ [[.sl (i7 (2 * k)) (mo.getD k []).length 0 (mo.getD k []).length]] := by
 unfold DX
 rw [List.range_succ, List.map_append]; rfl
theorem NJ (mo : List (List (List Int))) (k : Nat) (Y : VH) : (HZ mo k ++ Y)[2 * k]? = Y[0]? ∧ (HZ mo k ++ Y)[2 * k + 1]? = Y[1]? ∧ (HZ mo k ++ Y)[2 * k + 1 + 1]? = Y[2]? := by
 have := Cv mo k
 refine ⟨?_, ?_, ?_⟩ <;> rw [List.getElem?_append_right (by omega)] <;> congr 1 <;> omega
theorem A0p (mo : List (List (List Int))) (k : Nat) (Y : VH) (z : Option VO) : (HZ mo k ++ Y).set (2 * k) z = HZ mo k ++ Y.set 0 z ∧ (HZ mo k ++ Y).set (2 * k + 1) z = HZ mo k ++ Y.set 1 z := by
 have := Cv mo k
 refine ⟨?_, ?_⟩
 ·have e := List.set_append_right (s := (HZ mo k : List (Option VO))) (t := Y) (2 * k) z (by omega)
  rw [this, Nat.sub_self] at e
  exact e
 ·have e := List.set_append_right (s := (HZ mo k : List (Option VO))) (t := Y) (2 * k + 1) z (by omega)
  rw [this, Nat.add_sub_cancel_left] at e
  exact e
theorem A6u (mo : List (List (List Int))) (k : Nat) (a b : Option VO) : List.take (2 * k + 1) (HZ mo k ++ [a, b]) = HZ mo k ++ [a] := by
 have e : (HZ mo k ++ [a, b]) = (HZ mo k ++ [a]) ++ [b] := by simp
 rw [e]
 have hl : (HZ mo k ++ [a]).length = 2 * k + 1 := by rw [List.length_append, Cv]; rfl
 rw [← hl]
 exact List.take_left
/-- The heap while a shape is copied, behind two objects. -/
def cpG (x0 x1 : Option VO) (s : A9) (k : Nat) : VH := x0 :: x1 :: some ⟨A7, 0, 0, false, [[.nl, .nl, .nl]]⟩ :: some (Py AS 1 (s.has.map eI)) :: some (Py AS 1 (s.jf.map eI)) ::
 some ⟨A7, 0, 0, false, [[.sl 3 (Ge s.has.length) 0 s.has.length, .sl 4 (Ge s.jf.length) 0 s.jf.length, .sl 6 (DX s.mo k).length 0 (DX s.mo k).length]]⟩ :: some (AP Be 1 (DX s.mo k)) :: HZ s.mo k
section
variable {V : Ao} (C : AL V)
include C
set_option maxHeartbeats 8000000 in
theorem U3 (s : A9) (hs : Kp s) (x0 x1 : Option VO) {Q : VV → VH → Prop} : KX V Nj [Lc s] [x0, x1] Q ↔
  Q (.ag [.sl 3 (Ge s.has.length) 0 s.has.length, .sl 4 (Ge s.jf.length) 0 s.jf.length, .sl 6 (DX s.mo s.mo.length).length 0 (DX s.mo s.mo.length).length])
   (x0 :: x1 :: some ⟨A7, 0, 0, false, [[.sl 3 (Ge s.has.length) 0 s.has.length, .sl 4 (Ge s.jf.length) 0 s.jf.length, .sl 6 (DX s.mo s.mo.length).length 0 (DX s.mo s.mo.length).length]]⟩ :: (cpG x0 x1 s s.mo.length).drop 3) := by
 refine MI ?_
 rw [Em C.h_z24]
 have h1 := hs.has
 have h2 := hs.jf
 have h3 := hs.mo
 have b1 : s.has.length * 8 ≤ A5 := by unfold A5; omega
 have b2 : s.jf.length * 8 ≤ A5 := by unfold A5; omega
 simp only [RH, Dg, go_sem, ↓reduceIte, b1, b2]
 unfold VL
 rw [A0]
 refine S9 (M := Nat) (I := fun k F h => k ≤ s.mo.length ∧ A3.tmp F 1 = .fp (UQ s) 0 ∧ A3.tmp F 2 = .p 2 0 0 0 ∧ A3.tmp F 3 = .p 5 0 0 0 ∧ A3.tmp F 4 = .i .i64 k ∧ h = cpG x0 x1 s k) (μ := fun k => s.mo.length - k) ?_ 0 _ _ ⟨Nat.zero_le _, ?_, ?_, ?_, ?_, ?_⟩
 ·rintro k F h ⟨hkl, p1, p2, p3, p4, rfl⟩
  by_cases c : k < s.mo.length
  ·have hm := hs.mi' k
   have hw : IntKind.i64.wrap ((k : Int) + 1) = ((k + 1 : Nat) : Int) := by rw [AC (by omega) (by omega)]; omega
   simp only [Y4, Dg, go_sem, ↓reduceIte, p1, p2, p3, p4, c, Ct c, A0, cpG]
   have hT := Cv s.mo k
   have hg := fun Y => NJ s.mo k Y
   have hst := fun Y z => A0p s.mo k Y z
   refine Am (by decide) (s.mo.getD k []).length (by omega) (I := fun j F h => A3.tmp F 4 = .i .i64 k ∧ A3.tmp F 1 = .fp (UQ s) 0 ∧ A3.tmp F 2 = .p 2 0 0 0 ∧ A3.tmp F 3 = .p 5 0 0 0 ∧ ∃ K, K = (s.mo.getD k []).take j ∧ A3.tmp F 5 = .sl (i7 (2 * k)) K.length 0 K.length ∧ h = cpG x0 x1 s k ++ [some (AP E4 1 (K.map Kr))]) ?_ ?_ ?_ 0 _ _ (Nat.zero_le _) ?_ ?_
   ·rintro j F h hj q6 ⟨q4, q1, q2, q3, K, hK, q5, rfl⟩
    simp only [Dg, go_sem, ↓reduceIte, q6, q4, q1, q2, q3, q5, Ct c]
    exact ⟨K, hK, rfl, rfl⟩
   ·rintro j F h hj q6 ⟨q4, q1, q2, q3, K, hK, q5, rfl⟩
    have htk : (s.mo.getD k []).take (j + 1) = K ++ [(s.mo.getD k []).getD j []] := by
     rw [List.take_succ_eq_append_getElem hj, hK, List.getD_eq_getElem?_getD (l := s.mo.getD k []), List.getElem?_eq_getElem hj]; rfl
    have hc := hs.mc' k j
    have hl : K.length = j := by rw [hK, List.length_take]; omega
    have b3 : ((s.mo.getD k []).getD j []).length * 8 ≤ A5 := by unfold A5; omega
    have b4 : (K.length + 1) * 24 ≤ A5 := by unfold A5; omega
    simp only [Dg, go_sem, ↓reduceIte, q6, q4, q1, q2, q3, q5, Ct c, J6 hj, c, hj, b3, b4, cpG, A4V, A0, List.length_append, List.length_map, hT, (hg _).1, (hg _).2.1, (hg _).2.2, (hst _ _).1, (hst _ _).2]
    exact ⟨K ++ [(s.mo.getD k []).getD j []], htk.symm, by simp, by rw [A6u]⟩
   ·rintro F h ⟨q4, q1, q2, q3, K, hK, q5, rfl⟩
    rw [List.take_length] at hK
    subst hK
    have hr := Uk s.mo k
    have b4 : ((DX s.mo k).length + 1) * 24 ≤ A5 := by unfold A5; omega
    simp only [Dg, go_sem, ↓reduceIte, q4, q1, q2, q3, q5, b4, cpG, A1p, List.length_append, List.length_map, hT, (hg _).1, (hg _).2.1, (hg _).2.2, (hst _ _).1, (hst _ _).2, hw]
    refine ⟨?_, k + 1, by omega, by omega, rfl, ?_⟩
    ·rintro (h | h)
     ·have := congrArg (fun o => o.rows.length) h
      simp only [A3r, List.length_append] at this
      simp at this
     ·rw [List.all_append, Bool.and_eq_true] at h
      have := h.2
      simp [Cm, bel] at this
    ·rw [A5Y, HZ, List.length_append]
     rfl
   ·simp only [Dg, go_sem, ↓reduceIte]
   ·simp only [Dg, go_sem, ↓reduceIte, p4, p1, p2, p3, cpG, hT]
    exact ⟨[], rfl, rfl, rfl⟩
  ·have e : k = s.mo.length := by omega
   subst e
   simp only [Y4, Dg, go_sem, ↓reduceIte, p1, p2, p3, p4, Nat.lt_irrefl, cpG]
 ·simp only [Dg, go_sem, ↓reduceIte]
 ·simp only [Dg, go_sem, ↓reduceIte]
 ·simp only [Dg, go_sem, ↓reduceIte]
 ·simp only [Dg, go_sem, ↓reduceIte]
 ·rfl
end
end Go.AM

namespace Go.AM
open Go Go.Proofs
/-- The heap when a copy has been made for one node more. -/
def moG (x0 : Option VO) (s : A9) : VH := x0 :: some ⟨A7, 0, 0, false, [[.nl, .nl, .nl]]⟩ ::
 some ⟨A7, 0, 0, false, [[.sl 3 (Ge s.has.length) 0 s.has.length, .sl 4 (Ge s.jf.length) 0 s.jf.length, .sl 6 (DX s.mo s.mo.length).length 0 (DX s.mo s.mo.length).length]]⟩ :: some (Py AS 1 (s.has.map eI)) :: some (Py AS 1 (s.jf.map eI)) ::
 some ⟨A7, 0, 0, false, [[.sl 3 (Ge s.has.length) 0 s.has.length, .sl 4 (Ge s.jf.length) 0 s.jf.length, .sl 6 (DX s.mo s.mo.length).length 0 (DX s.mo s.mo.length).length]]⟩ :: some (AP Be 1 (DX s.mo s.mo.length)) ::
 (HZ s.mo s.mo.length ++ [some ⟨A7, 0, 0, false, [[.sl 3 (Ge s.has.length) 0 s.has.length, .sl 4 (Ge s.jf.length) 0 s.jf.length, .sl 6 (DX s.mo s.mo.length).length 0 (DX s.mo s.mo.length).length]]⟩])
abbrev moV (s S : A9) (v1 v2 : Nat) : VV := .ag [.sl (i7 (2 * s.mo.length) + 1) v1 0 S.has.length, .sl (i7 (2 * s.mo.length) + 1 + 1) v2 0 S.jf.length, .sl 6 (DX s.mo s.mo.length).length 0 (DX s.mo s.mo.length).length]
abbrev R0 (s S : A9) (v1 v2 : Nat) : List VV := [.sl (i7 (2 * s.mo.length) + 1) v1 0 S.has.length, .sl (i7 (2 * s.mo.length) + 1 + 1) v2 0 S.jf.length, .sl 6 (DX s.mo s.mo.length).length 0 (DX s.mo s.mo.length).length]
/-- The heap when one node more has come. -/
def moE (x0 : Option VO) (s S : A9) (v1 v2 : Nat) : VH := x0 :: some ⟨A7, 0, 0, false, [R0 s S v1 v2]⟩ ::
 some ⟨A7, 0, 0, false, [[.sl 3 (Ge s.has.length) 0 s.has.length, .sl 4 (Ge s.jf.length) 0 s.jf.length, .sl 6 (DX s.mo s.mo.length).length 0 (DX s.mo s.mo.length).length]]⟩ :: some (Py AS 1 (s.has.map eI)) :: some (Py AS 1 (s.jf.map eI)) ::
 some ⟨A7, 0, 0, false, [[.sl 3 (Ge s.has.length) 0 s.has.length, .sl 4 (Ge s.jf.length) 0 s.jf.length, .sl 6 (DX s.mo s.mo.length).length 0 (DX s.mo s.mo.length).length]]⟩ :: some (AP Be 1 (DX s.mo s.mo.length)) ::
 (HZ s.mo s.mo.length ++ [some ⟨A7, 0, 0, false, [R0 s S v1 v2]⟩, some ⟨AS, 1, v1, false, S.has.map eI⟩, some ⟨AS, 1, v2, false, S.jf.map eI⟩])
theorem A8o (x0 : Option VO) (s : A9) : (moG x0 s).length = 2 * s.mo.length + 8 := by
 have hT := Cv s.mo s.mo.length
 simp [moG, hT]
section
variable {V : Ao} (C : AL V)
include C
set_option maxHeartbeats 16000000 in
theorem S3 (t : A4) (ht : Aj t) (s : A9) (hs : Kp s) {m : Nat} (hm : m < t.nodes.length) (kind w : Int) (hok : C0 t s m kind = true) (x0 : Option VO) : KX V Gb [vT t, Lc s, .i .i64 m, .i .i64 kind, .i .i64 w] [x0] fun r h' => ∃ v1 v2, r = .tu [moV s (B3 s m w) v1 v2, .b true] ∧ h' = moE x0 s (B3 s m w) v1 v2 := by
 rw [Em C.h_z107]
 have hfm := fun (Q : VV → Prop) => Ca C t ht s hs (Q := Q)
 have hle := hs.has
 have h1 : Ch t (m : Int) = true := EM hm
 simp only [C0, Bool.and_eq_true, Bool.not_eq_true', Int.toNat_natCast] at hok
 obtain ⟨⟨⟨⟨hf, _⟩, h2⟩, h3⟩, h4⟩ := hok
 have w1 := EC s.has (m : Int)
 have w2 := Cb s.has (t.at m).up
 rw [h3] at w1
 rw [h4] at w2
 have hcp := fun (Q : VV → VH → Prop) => U3 C s hs x0 (some ⟨A7, 0, 0, false, [[.nl, .nl, .nl]]⟩) (Q := Q)
 have hT := Cv s.mo s.mo.length
 have hr := Uk s.mo s.mo.length
 have hg := fun Y => NJ s.mo s.mo.length Y
 have hst := fun Y z => A0p s.mo s.mo.length Y z
 have hlt0 : decide (i7 (2 * s.mo.length) < (moG x0 s).length) = true := decide_eq_true (by rw [A8o]; show 2 * s.mo.length + 7 < _; omega)
 simp only [C4, C2, go_sem, ↓reduceIte, hfm, hf, Ar C, h1, A6 hm, h2, Al C s.has (by omega), w1, w2, hcp, cpG, hT, (hg _).1, (hg _).2.1, (hg _).2.2, (hst _ _).1, (hst _ _).2]
 unfold VL
 rw [A0]
 have hjl : s.jf.length = s.has.length := by simp only [Bq, Bool.and_eq_true, decide_eq_true_eq] at hf; exact hf.1.1.1.1.2
 refine AI (M := Nat) (I := fun i F h => i ≤ BI s.has m ∧ A3.tmp F 2 = .i .i64 m ∧ A3.tmp F 4 = .i .i64 w ∧ A3.tmp F 6 = .fp (UQ s) 0 ∧ A3.tmp F 10 = .p 1 0 0 0 ∧ A3.tmp F 12 = .p (i7 (2 * s.mo.length)) 0 0 0 ∧ A3.tmp F 13 = .i .i64 i ∧ h = moG x0 s) (μ := fun i => s.has.length - i) ?_ 0 _ _ ⟨Nat.zero_le _, ?_, ?_, ?_, ?_, ?_, ?_, rfl⟩
 ·rintro i F h ⟨hi, p2, p4, p6, p10, p12, p13, rfl⟩
  have hiff := Lx hi
  have hkl := E5 s.has m
  by_cases c : i < s.has.length
  ·cases c2 : decide (s.has.getD i 0 < (m : Int)) with
   | true =>
    have c2' := of_decide_eq_true c2
    have hlt := hiff.1 ⟨c, c2'⟩
    have hw : IntKind.i64.wrap ((i : Int) + 1) = ((i + 1 : Nat) : Int) := by rw [AC (by omega) (by omega)]; omega
    simp only [E6, C2, go_sem, ↓reduceIte, p2, p4, p6, p10, p12, p13, c, Ay c, c2, A0, hw, hlt0]
    refine ⟨i + 1, by omega, by omega, ?_⟩
    first | rfl | exact ⟨rfl, rfl⟩ | exact ⟨rfl, rfl, rfl⟩
   | false =>
    have c2' := of_decide_eq_false c2
    have e : i = BI s.has m := by
     rcases Nat.lt_or_ge i (BI s.has m) with h | h
     ·exact absurd (Li h) c2'
     ·omega
    obtain ⟨A, hA⟩ : ∃ A, A = s.has.take i := ⟨_, rfl⟩
    obtain ⟨B, hB⟩ : ∃ B, B = s.has.drop i := ⟨_, rfl⟩
    obtain ⟨A', hA'⟩ : ∃ A, A = s.jf.take i := ⟨_, rfl⟩
    obtain ⟨B', hB'⟩ : ∃ B, B = s.jf.drop i := ⟨_, rfl⟩
    have lA : A.length = i := by rw [hA, List.length_take]; omega
    have lA' : A'.length = i := by rw [hA', List.length_take]; omega
    have lB : B.length = s.has.length - i := by rw [hB, List.length_drop]
    have lB' : B'.length = s.jf.length - i := by rw [hB', List.length_drop]
    have tB : List.take (s.has.length - i) B = B := List.take_of_length_le (by omega)
    have tB' : List.take (s.jf.length - i) B' = B' := List.take_of_length_le (by omega)
    have c1 : i ≤ s.has.length := by omega
    have c1' : i ≤ s.jf.length := by omega
    have b1 : A.length * 8 ≤ A5 := by unfold A5; omega
    have b1' : A'.length * 8 ≤ A5 := by unfold A5; omega
    have b2 : (A.length + 1) * 8 ≤ A5 := by unfold A5; omega
    have b2' : (A'.length + 1) * 8 ≤ A5 := by unfold A5; omega
    obtain ⟨b0, Bs, rfl⟩ : ∃ b0 Bs, B = b0 :: Bs := by
     cases B with
     | nil => simp at lB; omega
     | cons b0 Bs => exact ⟨b0, Bs, rfl⟩
    obtain ⟨b0', Bs', rfl⟩ : ∃ b0 Bs, B' = b0 :: Bs := by
     cases B' with
     | nil => simp at lB'; omega
     | cons b0 Bs => exact ⟨b0, Bs, rfl⟩
    rw [List.length_cons] at lB lB'
    have tBm : List.take (s.has.length - i) (eI b0 :: List.map eI Bs) = eI b0 :: List.map eI Bs := List.take_of_length_le (by simp; omega)
    have tBm' : List.take (s.jf.length - i) (eI b0' :: List.map eI Bs') = eI b0' :: List.map eI Bs' := List.take_of_length_le (by simp; omega)
    obtain ⟨X, hX⟩ : ∃ X, X = A ++ [(m : Int)] ++ b0 :: Bs := ⟨_, rfl⟩
    obtain ⟨X', hX'⟩ : ∃ X, X = A' ++ [w] ++ b0' :: Bs' := ⟨_, rfl⟩
    have jX : List.map eI (A ++ [(m : Int)]) ++ eI b0 :: List.map eI Bs = List.map eI X := by rw [hX, List.map_append (l₁ := A ++ [(m : Int)])]; rfl
    have jX' : List.map eI (A' ++ [w]) ++ eI b0' :: List.map eI Bs' = List.map eI X' := by rw [hX', List.map_append (l₁ := A' ++ [w])]; rfl
    have lX : A.length + 1 + (Bs.length + 1) = X.length := by rw [hX]; simp; omega
    have lX' : A'.length + 1 + (Bs'.length + 1) = X'.length := by rw [hX']; simp; omega
    have b3 : X.length * 8 ≤ A5 := by unfold A5; omega
    have b3' : X'.length * 8 ≤ A5 := by unfold A5; omega
    have eX : X = BL s.has (BI s.has m) m := by rw [hX, BL, ← e, ← hA, ← hB]; simp
    have eX' : X' = BL s.jf (BI s.has m) w := by rw [hX', BL, ← e, ← hA', ← hB']; simp
    simp only [E6, C2, go_sem, ↓reduceIte, p2, p4, p6, p10, p12, p13, c, Ay c, c2, A0, moG, ← hA, ← hB, ← hA', ← hB', tBm, tBm', c1, c1', b1, b1', b2, b2', b3, b3', List.length_append, List.length_map, hT, (hg _).1, (hg _).2.1, (hg _).2.2, (hst _ _).1, (hst _ _).2, jX, jX', lX, lX']
    exact ⟨_, _, by rw [eX, eX']; rfl, by rw [eX, eX']; rfl⟩
  ·have e : i = BI s.has m := by omega
   obtain ⟨A, hA⟩ : ∃ A, A = s.has.take i := ⟨_, rfl⟩
   obtain ⟨B, hB⟩ : ∃ B, B = s.has.drop i := ⟨_, rfl⟩
   obtain ⟨A', hA'⟩ : ∃ A, A = s.jf.take i := ⟨_, rfl⟩
   obtain ⟨B', hB'⟩ : ∃ B, B = s.jf.drop i := ⟨_, rfl⟩
   have lA : A.length = i := by rw [hA, List.length_take]; omega
   have lA' : A'.length = i := by rw [hA', List.length_take]; omega
   have lB : B.length = s.has.length - i := by rw [hB, List.length_drop]
   have lB' : B'.length = s.jf.length - i := by rw [hB', List.length_drop]
   have tB : List.take (s.has.length - i) B = B := List.take_of_length_le (by omega)
   have tB' : List.take (s.jf.length - i) B' = B' := List.take_of_length_le (by omega)
   have c1 : i ≤ s.has.length := by omega
   have c1' : i ≤ s.jf.length := by omega
   have b1 : A.length * 8 ≤ A5 := by unfold A5; omega
   have b1' : A'.length * 8 ≤ A5 := by unfold A5; omega
   have b2 : (A.length + 1) * 8 ≤ A5 := by unfold A5; omega
   have b2' : (A'.length + 1) * 8 ≤ A5 := by unfold A5; omega
   obtain rfl : B = [] := List.length_eq_zero_iff.1 (by omega)
   obtain rfl : B' = [] := List.length_eq_zero_iff.1 (by omega)
   have b3 : (A.length + 1 + 0) * 8 ≤ A5 := by unfold A5; omega
   have b3' : (A'.length + 1 + 0) * 8 ≤ A5 := by unfold A5; omega
   simp only [E6, C2, go_sem, ↓reduceIte, p2, p4, p6, p10, p12, p13, c, A0, moG, ← hA, ← hB, ← hA', ← hB', tB, tB', c1, c1', b1, b1', b2, b2', b3, b3', List.length_append, List.length_map, hT, (hg _).1, (hg _).2.1, (hg _).2.2, (hst _ _).1, (hst _ _).2]
   have eX : A ++ [(m : Int)] = BL s.has (BI s.has m) m := by rw [BL, ← e, ← hA, ← hB]
   have eX' : A' ++ [w] = BL s.jf (BI s.has m) w := by rw [BL, ← e, ← hA', ← hB']
   have lX : A.length + 1 = (BL s.has (BI s.has m) m).length := by rw [← eX]; simp
   have lX' : A'.length + 1 = (BL s.jf (BI s.has m) w).length := by rw [← eX']; simp
   exact ⟨_, _, by rw [lX, lX']; rfl, by rw [lX, lX', eX, eX']; rfl⟩
 ·simp only [C2, go_sem, ↓reduceIte]
 ·simp only [C2, go_sem, ↓reduceIte]
 ·simp only [C2, go_sem, ↓reduceIte]
 ·simp only [C2, go_sem, ↓reduceIte]
 ·simp only [C2, go_sem, ↓reduceIte]
 ·simp only [C2, go_sem, ↓reduceIte]
end
end Go.AM

namespace Go.AM
open Go Go.Proofs
theorem Zg (mo : List (List (List Int))) {loc : Nat} : ∀ {n : Nat}, loc < n → ∀ Y : VH, (HZ mo n ++ Y)[2 * loc]? = some (some (AP E4 1 ((mo.getD loc []).map Kr)))
 | 0, h, _ => by omega
 | n + 1, h, Y => by
  rw [HZ, List.append_assoc]
  by_cases c : loc = n
  ·subst c
   rw [(NJ mo loc _).1]; rfl
  ·exact Zg mo (by omega) _
theorem TJ (mo : List (List (List Int))) {n loc i : Nat} (hl : loc < n) (hi : i < n) (z : Option VO) (Y : VH) : ((HZ mo n).set (2 * loc) z ++ Y)[2 * i]? = some (if i = loc then z else some (AP E4 1 ((mo.getD i []).map Kr))) := by
 have hT := Cv mo n
 rw [List.getElem?_append_left (by rw [List.length_set]; omega), List.getElem?_set]
 by_cases c : i = loc
 ·subst c
  simp; omega
 ·rw [if_neg (by omega), if_neg c]
  have := Zg mo hi []
  rwa [List.append_nil] at this
theorem A6d (mo : List (List (List Int))) (n loc j : Nat) (z : Option VO) (Y : VH) : ((HZ mo n).set (2 * loc) z ++ Y)[2 * n + j]? = Y[j]? := by
 have hT := Cv mo n
 rw [List.getElem?_append_right (by rw [List.length_set]; omega), List.length_set, hT]
 congr 1; omega
theorem AaJ (mo : List (List (List Int))) (n loc j : Nat) (z y : Option VO) (Y : VH) : ((HZ mo n).set (2 * loc) z ++ Y).set (2 * n + j) y = (HZ mo n).set (2 * loc) z ++ Y.set j y := by
 have hT := Cv mo n
 have hl : ((HZ mo n).set (2 * loc) z).length = 2 * n := by rw [List.length_set]; exact hT
 have e := List.set_append_right (s := ((HZ mo n).set (2 * loc) z : List (Option VO))) (t := Y) (2 * n + j) y (by omega)
 rw [hl, Nat.add_sub_cancel_left] at e
 exact e
theorem XP {α : Type} {g : α → Option (α × List Nat)} {f h : Nat → α} {is : Nat → List Nat} : ∀ (n : Nat), (∀ i, i < n → g (f i) = some (h i, is i)) → ∃ ids, AR g ((List.range n).map f) = some ((List.range n).map h, ids) := by
 have app : ∀ (a b : List α) {x y : List α} {i j : List Nat}, AR g a = some (x, i) → AR g b = some (y, j) → AR g (a ++ b) = some (x ++ y, i ++ j) := by
  intro a
  induction a with
  | nil => intro b x y i j h1 h2; simp only [AR, Option.some.injEq, Prod.mk.injEq] at h1; obtain ⟨rfl, rfl⟩ := h1; exact h2
  | cons a0 a ih =>
   intro b x y i j h1 h2
   simp only [AR] at h1
   split at h1
   ·rename_i y0 i0 ys is e1 e2
    simp only [Option.some.injEq, Prod.mk.injEq] at h1
    obtain ⟨rfl, rfl⟩ := h1
    simp only [List.cons_append, AR, e1, ih b e2 h2, List.append_assoc]
   ·cases h1
 intro n
 induction n with
 | zero => intro _; exact ⟨[], rfl⟩
 | succ n ih =>
  intro hg
  obtain ⟨ids, e⟩ := ih fun i hi => hg i (by omega)
  refine ⟨ids ++ (is n ++ []), ?_⟩
  rw [List.range_succ, List.map_append, List.map_append]
  refine app _ _ e ?_
  simp only [List.map_cons, List.map_nil, AR, hg n (by omega)]
theorem AeF {H : VH} {d : Nat} {l : List (List Int)} {k : Nat} (hk : k < l.length) {v : VV} {X : List Int} {ids : List Nat} (hv : frz H (d + 2) v = some (.ls (X.map eI), ids)) :
  AR (fun row => AR (frz H (d + 2)) row) (List.take l.length ((l.map Kr).set k [v])) = some ((l.set k X).map Kr, ids) := by
 rw [List.take_of_length_le (by simp)]
 rw [List.map_set]
 refine Pm (l.map Kr) k [v] (Kr X) ids ?_ (by simpa using hk) ?_
 ·intro a ha
  obtain ⟨c, _, rfl⟩ := List.mem_map.1 ha
  simp only [go_sem, MV, ↓reduceIte]
 ·simp only [AR, hv, List.append_nil]
theorem Sb {f d : Nat} (hf : f = d + 4) {mo : List (List (List Int))} {loc : Nat} (hll : loc < mo.length) {L : List (List Int)} (hL : mo.getD loc [] = L) {a : Nat} (ha : a < L.length) (a0 a1 a2 a3 a4 a5 a6 : Option VO) {Y : VH} {idx v id : Nat} {X : List Int} (hid : id = i7 (2 * mo.length + idx))
  (hY : Y[idx]? = some (some ⟨AS, 1, v, false, X.map eI⟩)) :
  ∃ ids, AR (fun row => AR (frz (a0 :: a1 :: a2 :: a3 :: a4 :: a5 :: a6 :: ((HZ mo mo.length).set (2 * loc) (some ⟨E4, 1, L.length, false, (L.map Kr).set a [.sl id v 0 X.length]⟩) ++ Y)) f) row) (DX mo mo.length) = some ((mo.set loc (L.set a X)).map ED, ids) := by
 subst hid
 subst hf
 obtain ⟨ids, e⟩ := XP (g := fun row => AR (frz (a0 :: a1 :: a2 :: a3 :: a4 :: a5 :: a6 :: ((HZ mo mo.length).set (2 * loc) (some ⟨E4, 1, L.length, false, (L.map Kr).set a [.sl (i7 (2 * mo.length + idx)) v 0 X.length]⟩) ++ Y)) (d + 4)) row)
  (f := fun i => [.sl (i7 (2 * i)) (mo.getD i []).length 0 (mo.getD i []).length]) (h := fun i => ED ((mo.set loc (L.set a X)).getD i [])) (is := fun i => if i = loc then [i7 (2 * i), i7 (2 * mo.length + idx)] else [i7 (2 * i)]) mo.length (fun i hi => by
   by_cases c : i = loc
   ·subst c
    have h1 := fun z => TJ mo hll hi z Y
    have h2 := fun z => A6d mo mo.length i idx z Y
    rw [hL]
    have h3 : (mo.set i (L.set a X)).getD i [] = L.set a X := by rw [List.getD_eq_getElem?_getD, List.getElem?_set]; simp [hll]
    rw [h3]
    simp only [if_true] at h1
    simp only [Qf, go_sem, ↓reduceIte, h1, h2, hY, List.length_map, List.length_set, ↓reduceIte]
    rw [AeF ha (X := X) (ids := [i7 (2 * mo.length + idx)]) (by simp only [Qf, go_sem, ↓reduceIte, h2, hY, List.length_map])]
    rfl
   ·have h1 := fun z => TJ mo hll hi z Y
    have h3 : (mo.set loc (L.set a X)).getD i [] = mo.getD i [] := by rw [List.getD_eq_getElem?_getD, List.getD_eq_getElem?_getD, List.getElem?_set_ne (by omega)]
    rw [h3]
    simp only [c, if_false] at h1 ⊢
    simp only [Qf, go_sem, ↓reduceIte, h1, List.length_map, ↓reduceIte])
 refine ⟨ids, ?_⟩
 rw [show DX mo mo.length = (List.range mo.length).map fun i => [VV.sl (i7 (2 * i)) (mo.getD i []).length 0 (mo.getD i []).length] from rfl, e]
 congr 2
 apply List.ext_getElem
 ·simp
 ·intro i h1 h2
  have hi : i < (mo.set loc (L.set a X)).length := by simpa using h1
  rw [List.getElem_map, List.getElem_map, List.getElem_range, List.getD_eq_getElem?_getD, List.getElem?_eq_getElem hi]; rfl
end Go.AM

namespace Go.AM
open Go Go.Proofs
theorem Abo {mo : List (List (List Int))} {n loc : Nat} (h : loc < n) : (DX mo n)[loc]? = some [.sl (i7 (2 * loc)) (mo.getD loc []).length 0 (mo.getD loc []).length] := by simp [DX, h]
theorem Aaf (mo : List (List (List Int))) (k j : Nat) (Y : VH) : (HZ mo k ++ Y)[2 * k + j]? = Y[j]? := by
 have := Cv mo k
 rw [List.getElem?_append_right (by omega)]
 congr 1; omega
theorem AcC (mo : List (List (List Int))) (k j : Nat) (Y : VH) (z : Option VO) : (HZ mo k ++ Y).set (2 * k + j) z = HZ mo k ++ Y.set j z := by
 have hl := Cv mo k
 have e := List.set_append_right (s := (HZ mo k : List (Option VO))) (t := Y) (2 * k + j) z (by omega)
 rw [hl, Nat.add_sub_cancel_left] at e
 exact e
theorem A8p (mo : List (List (List Int))) {n loc : Nat} (h : loc < n) (Y : VH) (z : Option VO) : (HZ mo n ++ Y).set (2 * loc) z = (HZ mo n).set (2 * loc) z ++ Y := by
 have hl := Cv mo n
 exact List.set_append_left (2 * loc) z (by omega)
def Nb (t : A4) (s : A9) (n at_ : Int) : Option A9 := match D7 t s n 3 (-1) with
 | some s' =>
  let loc := (t.at n.toNat).loc.toNat
  let L := s'.mo.getD loc []
  if at_ < 1 ∨ (L.length : Int) ≤ at_ then none else
   let c := L.getD at_.toNat []
   let s'' : A9 := { s' with mo := s'.mo.set loc (L.set at_.toNat (BL c (BI c n) n)) }
   if Bq t s'' = true then some s'' else none
 | none => none
/-- The heap when a node is about to join. -/
def joH (s S : A9) (v1 v2 : Nat) : VH := moE (some ⟨A7, 0, 0, false, [[.nl, .nl, .nl]]⟩) s S v1 v2 ++ [some Dv, some Dv, some Dv, some ⟨A7, 0, 0, false, [R0 s S v1 v2]⟩]
theorem A8a (s S : A9) (v1 v2 : Nat) : (joH s S v1 v2).length = 2 * s.mo.length + 14 := by
 have hT := Cv s.mo s.mo.length
 simp [joH, moE, hT]
theorem KX.mono {V : Ao} {g : Nat} {args : List VV} {h : VH} {Q Q' : VV → VH → Prop} (k : KX V g args h Q) (i : ∀ v h', Q v h' → Q' v h') : KX V g args h Q' := by
 obtain ⟨vf, e, hb⟩ := k
 exact ⟨vf, e, hb.mono i⟩
theorem A0d {s : A9} (hs : Kp s) (hz : s.has.length < 1000 ∧ s.jf.length < 1000 ∧ ∀ l ∈ s.mo, ∀ c ∈ l, c.length < 1000) (n w : Int) (hj : s.jf.length = s.has.length) {loc a : Nat} {L : List (List Int)} (hL : s.mo.getD loc [] = L) (hll : loc < s.mo.length) {X : List Int} (hX : X.length ≤ 1000) :
  Kp ⟨(B3 s n w).has, (B3 s n w).jf, (B3 s n w).mo.set loc (L.set a X)⟩ := by
 have h1 := E5 s.has n
 have hm := Au (d := []) hll
 rw [hL] at hm
 refine ⟨by show (BL _ _ _).length ≤ 1000; rw [EV h1]; omega, by show (BL _ _ _).length ≤ 1000; rw [EV (by omega)]; omega, by show (s.mo.set _ _).length ≤ 1000; rw [List.length_set]; exact hs.mo, ?_, ?_⟩
 ·intro l hl
  rcases List.mem_or_eq_of_mem_set hl with h | rfl
  ·exact hs.mi l h
  ·rw [List.length_set]; exact hs.mi L hm
 ·intro l hl c hc
  rcases List.mem_or_eq_of_mem_set hl with h | rfl
  ·exact hs.mc l h c hc
  ·rcases List.mem_or_eq_of_mem_set hc with h | rfl
   ·exact hs.mc L hm c h
   ·exact hX
section
variable {V : Ao} (C : AL V)
include C
set_option maxHeartbeats 8000000 in
theorem PK (t : A4) (ht : Aj t) (s : A9) (hs : Kp s) (n kind w : Int) (h0 : C0 t s n kind = false) (x0 : Option VO) {Q : VV → VH → Prop} : KX V Gb [vT t, Lc s, .i .i64 n, .i .i64 kind, .i .i64 w] [x0] Q ↔ Q (.tu [.ag [.nl, .nl, .nl], .b false]) [x0, some ⟨A7, 0, 0, false, [[.nl, .nl, .nl]]⟩] := by
 refine MI ?_
 rw [Em C.h_z107]
 have hfm := fun (Q : VV → Prop) => Ca C t ht s hs (Q := Q)
 have hle := hs.has
 cases hf : Bq t s with
 | false =>
  simp only [C4, C2, go_sem, ↓reduceIte, hfm, hf]
 | true =>
 cases h1 : Ch t n with
 | false =>
  simp only [C4, C2, go_sem, ↓reduceIte, hfm, hf, Ar C, h1]
 | true =>
 obtain ⟨m, rfl, hm⟩ := Aq h1
 cases h2 : decide ((t.at m).kind = kind) with
 | false =>
  simp only [C4, C2, go_sem, ↓reduceIte, hfm, hf, Ar C, h1, A6 hm, h2]
 | true =>
 have w1 := EC s.has (m : Int)
 cases h3 : BB s.has (m : Int) with
 | true =>
  rw [h3] at w1
  simp only [C4, C2, go_sem, ↓reduceIte, hfm, hf, Ar C, h1, A6 hm, h2, Al C s.has (by omega), w1]
 | false =>
 rw [h3] at w1
 have w2 := Cb s.has (t.at m).up
 cases h4 : BB s.has (t.at m).up with
 | false =>
  rw [h4] at w2
  simp only [C4, C2, go_sem, ↓reduceIte, hfm, hf, Ar C, h1, A6 hm, h2, Al C s.has (by omega), w1, w2]
 | true =>
  rw [C0, hf, h1, Int.toNat_natCast, h2, h3, h4] at h0
  cases h0
set_option maxRecDepth 10000 in
set_option maxHeartbeats 16000000 in
theorem Ul (t : A4) (ht : Aj t) (s : A9) (hs : Kp s) (hz : s.has.length < 1000 ∧ s.jf.length < 1000 ∧ ∀ l ∈ s.mo, ∀ c ∈ l, c.length < 1000) (n at_ : Int) {Q : VV → Prop} : VP V A1D [vT t, Lc s, .i .i64 n, .i .i64 at_] Q ↔ Q (GX (Nb t s n at_)) := by
 refine Aa ?_
 rw [A8 C.c_z60.1 C.c_z60.2]
 unfold Nb D7
 cases hok : C0 t s n 3 with
 | false =>
  have hm := fun (x0 : Option VO) (Q : VV → VH → Prop) => PK C t ht s hs n 3 (-1) hok x0 (Q := Q)
  simp only [GX, NE, Bool.false_eq_true, if_false] at hm ⊢
  simp only [A0r, Cj, go_sem, ↓reduceIte, hm]
  rfl
 | true =>
  have hok' := hok
  simp only [C0, Bool.and_eq_true, decide_eq_true_eq] at hok'
  obtain ⟨⟨⟨⟨hf, h1⟩, h2⟩, h3⟩, h4⟩ := hok'
  obtain ⟨m, rfl, hmn⟩ := Aq h1
  rw [Int.toNat_natCast] at h2
  have hmo : s.mo.length = t.locs.length := by simp only [Bq, Bool.and_eq_true, decide_eq_true_eq] at hf; exact hf.1.1.1.2
  have hjl : s.jf.length = s.has.length := by simp only [Bq, Bool.and_eq_true, decide_eq_true_eq] at hf; exact hf.1.1.1.1.2
  obtain ⟨l0, l1⟩ := ht.wloc hmn (.inr h2)
  obtain ⟨loc, hloc⟩ := Int.eq_ofNat_of_zero_le l0
  have hll : loc < s.mo.length := by omega
  rw [if_pos rfl]
  simp only [Int.toNat_natCast, hloc]
  simp only [A0r, Cj, go_sem, ↓reduceIte]
  refine KX.mono (S3 C t ht s hs hmn 3 (-1) hok _) ?_
  rintro _ _ ⟨v1, v2, rfl, rfl⟩
  have hT := Cv s.mo s.mo.length
  have hr := Uk s.mo s.mo.length
  have hat := Abo (mo := s.mo) hll
  have hTa := fun Y => Zg s.mo hll Y
  have hg := fun Y => NJ s.mo s.mo.length Y
  have hlr : loc < (DX s.mo s.mo.length).length := by omega
  have hix := Gw (ty := Be) (e := 1) (rows := DX s.mo s.mo.length) (by omega)
  have hj := fun j Y => Aaf s.mo s.mo.length j Y
  have hsj := fun j Y z => AcC s.mo s.mo.length j Y z
  have hsl := fun Y z => A8p s.mo hll Y z
  obtain ⟨L, hL⟩ : ∃ L, L = (B3 s m (-1)).mo.getD loc [] := ⟨_, rfl⟩
  have hL' : s.mo.getD loc [] = L := hL.symm
  have hsz := hs.mi' loc
  rw [← hL]
  rw [hL'] at hat hTa hsz
  cases c1 : decide (at_ < 1) with
  | true =>
   rw [if_pos (.inl (of_decide_eq_true c1))]
   simp only [GX, NE]
   simp only [Cj, go_sem, ↓reduceIte, moE, hT, hat, hTa, A6 hmn, hloc, hll, hj 6, hsj 6, c1]
   rfl
  | false =>
  have c1' := of_decide_eq_false c1
  obtain ⟨a, rfl⟩ := Int.eq_ofNat_of_zero_le (show 0 ≤ at_ by omega)
  have c2n : decide ((L.length : Int) ≤ (a : Int)) = decide (L.length ≤ a) := decide_eq_decide.2 ⟨fun h => by omega, fun h => by omega⟩
  cases c2 : decide (L.length ≤ a) with
  | true =>
   have := of_decide_eq_true c2
   rw [if_pos (.inr (by omega))]
   simp only [GX, NE]
   simp only [Cj, go_sem, ↓reduceIte, moE, hT, hat, hTa, A6 hmn, hloc, hll, hlr, hix, hj 6, hsj 6, c1, c2n, c2]
   rfl
  | false =>
  have c2' := of_decide_eq_false c2
  have c3 : a < L.length := by omega
  rw [if_neg (by omega), Int.toNat_natCast]
  obtain ⟨c, hcd⟩ : ∃ c, c = L.getD a [] := ⟨_, rfl⟩
  have hca : L[a]? = some c := by rw [J6 c3, hcd]
  have hcs := hs.mc' loc a
  rw [hL', ← hcd] at hcs
  have hcz : c.length < 1000 := by
   have hm := Au (d := []) hll
   rw [hL'] at hm
   refine hz.2.2 L hm c ?_
   rw [hcd]
   exact Au c3
  rw [← hcd]
  have hix2 := Gw (ty := E4) (e := 1) (rows := L.map Kr) (by rw [List.length_map]; omega)
  simp only [Cj, go_sem, ↓reduceIte, moE, hT, hat, hTa, A6 hmn, hloc, hll, hlr, hix, hj 6, hsj 6, c1, c2n, c2, hca, c3, hix2, List.length_map]
  have hao : AP E4 1 (L.map Kr) = ⟨E4, 1, L.length, false, L.map Kr⟩ := by
   unfold AP
   rw [if_neg (by rw [List.length_map]; omega), List.length_map]
  have dne : decide (i7 (2 * s.mo.length + 6) = 2 * s.mo.length + 7 + 1 + 1 + 1 + 1 + 1 + 1 + 1) = false := decide_eq_false (by show ¬ 2 * s.mo.length + 6 + 7 = 2 * s.mo.length + 7 + 7; omega)
  have dn6 : decide (6 = 2 * s.mo.length + 7 + 1 + 1 + 1 + 1 + 1 + 1 + 1) = false := decide_eq_false (by omega)
  have dnl : decide (i7 (2 * loc) = 2 * s.mo.length + 7 + 1 + 1 + 1 + 1 + 1 + 1 + 1) = false := decide_eq_false (by show ¬ 2 * loc + 7 = 2 * s.mo.length + 7 + 7; omega)
  have hj2 := fun j z Y => A6d s.mo s.mo.length loc j z Y
  have hs2 := fun j z y Y => AaJ s.mo s.mo.length loc j z y Y
  have hat2 : ∀ z Y, ((HZ s.mo s.mo.length).set (2 * loc) z ++ Y)[2 * loc]? = some z := fun z Y => by rw [TJ s.mo hll hll z Y, if_pos rfl]
  unfold VL
  rw [A0]
  refine AI (M := Nat) (I := fun i F h => i ≤ BI c m ∧ A3.tmp F 2 = .i .i64 m ∧ A3.tmp F 3 = .i .i64 a ∧ A3.tmp F 4 = .fp (eT t) 0 ∧ A3.tmp F 8 = .p 0 0 0 0 ∧ A3.tmp F 10 = .p (i7 (2 * s.mo.length + 6)) 0 0 0 ∧ A3.tmp F 12 = .i .i64 loc ∧ A3.tmp F 13 = lI c ∧ A3.tmp F 14 = .i .i64 i ∧ h = joH s (B3 s m (-1)) v1 v2) (μ := fun i => c.length - i) ?_ 0 _ _ ⟨Nat.zero_le _, ?_, ?_, ?_, ?_, ?_, ?_, ?_, ?_, ?_⟩
  ·rintro i F h ⟨hi, p2, p3, p4, p8, p10, p12, p13, p14, rfl⟩
   have hiff := Lx hi
   have hkl := E5 c m
   have hlt0 : decide (i7 (2 * s.mo.length + 6) < (joH s (B3 s m (-1)) v1 v2).length) = true := decide_eq_true (by rw [A8a]; show 2 * s.mo.length + 6 + 7 < _; omega)
   by_cases ci : i < c.length
   ·cases ci2 : decide (c.getD i 0 < (m : Int)) with
    | true =>
     have ci2' := of_decide_eq_true ci2
     have hlt := hiff.1 ⟨ci, ci2'⟩
     have hw : IntKind.i64.wrap ((i : Int) + 1) = ((i + 1 : Nat) : Int) := by rw [AC (by omega) (by omega)]; omega
     simp only [UA, Cj, go_sem, ↓reduceIte, p2, p3, p4, p8, p10, p12, p13, p14, ci, Ay ci, ci2, A0, hw, hlt0]
     exact ⟨i + 1, by omega, by omega, rfl, rfl⟩
    | false =>
     have ci2' := of_decide_eq_false ci2
     have e : i = BI c m := by
      rcases Nat.lt_or_ge i (BI c m) with h | h
      ·exact absurd (Li h) ci2'
      ·omega
     obtain ⟨A, hA⟩ : ∃ A, A = c.take i := ⟨_, rfl⟩
     obtain ⟨B, hB⟩ : ∃ B, B = c.drop i := ⟨_, rfl⟩
     have lA : A.length = i := by rw [hA, List.length_take]; omega
     have lB : B.length = c.length - i := by rw [hB, List.length_drop]
     have k1 : i ≤ c.length := by omega
     have b1 : A.length * 8 ≤ A5 := by unfold A5; omega
     have b2 : (A.length + 1) * 8 ≤ A5 := by unfold A5; omega
     obtain ⟨b0, Bs, rfl⟩ : ∃ b0 Bs, B = b0 :: Bs := by
      cases B with
      | nil => simp at lB; omega
      | cons b0 Bs => exact ⟨b0, Bs, rfl⟩
     rw [List.length_cons] at lB
     have tBm : List.take (c.length - i) (eI b0 :: List.map eI Bs) = eI b0 :: List.map eI Bs := List.take_of_length_le (by simp; omega)
     obtain ⟨X, hX⟩ : ∃ X, X = A ++ [(m : Int)] ++ b0 :: Bs := ⟨_, rfl⟩
     have jX : List.map eI (A ++ [(m : Int)]) ++ eI b0 :: List.map eI Bs = List.map eI X := by rw [hX, List.map_append (l₁ := A ++ [(m : Int)])]; rfl
     have lX : A.length + 1 + (Bs.length + 1) = X.length := by rw [hX]; simp; omega
     have b3 : X.length * 8 ≤ A5 := by unfold A5; omega
     have eX : X = BL c (BI c m) m := by rw [hX, BL, ← e, ← hA, ← hB]; simp
     rw [← eX]
     simp only [UA, Cj, go_sem, ↓reduceIte, p2, p3, p4, p8, p10, p12, p13, p14, ci, Ay ci, ci2, A0, joH, moE, List.cons_append, List.append_assoc, List.nil_append, hT, hat, hTa, hll, hlr, hix, hix2, hao, hj 6, hj 7, hsj 6, hsj 7, hsl, hj2 1, hj2 2, hj2 6, hj2 7, hs2 6, hs2 7, hat2, dne, dn6, dnl, k1, ← hA, ← hB, tBm, b1, b2, b3, jX, lX, c3, hca, List.length_append, List.length_map]
     obtain ⟨ids, hfM⟩ := Sb (f := 6) (d := 2) rfl hll hL' c3 (some ⟨A7, 0, 0, false, [[.nl, .nl, .nl]]⟩) (some ⟨A7, 0, 0, false, [R0 s (B3 s m (-1)) v1 v2]⟩) (some ⟨A7, 0, 0, false, [[.sl 3 (Ge s.has.length) 0 s.has.length, .sl 4 (Ge s.jf.length) 0 s.jf.length, .sl 6 (DX s.mo s.mo.length).length 0 (DX s.mo s.mo.length).length]]⟩) (some (Py AS 1 (s.has.map eI))) (some (Py AS 1 (s.jf.map eI))) (some ⟨A7, 0, 0, false, [[.sl 3 (Ge s.has.length) 0 s.has.length, .sl 4 (Ge s.jf.length) 0 s.jf.length, .sl 6 (DX s.mo s.mo.length).length 0 (DX s.mo s.mo.length).length]]⟩) (some (AP Be 1 (DX s.mo s.mo.length)))
      (Y := [some ⟨A7, 0, 0, false, [R0 s (B3 s m (-1)) v1 v2]⟩, some ⟨AS, 1, v1, false, (B3 s m (-1)).has.map eI⟩, some ⟨AS, 1, v2, false, (B3 s m (-1)).jf.map eI⟩, some Dv, some Dv, some Dv, some ⟨A7, 0, 0, false, [R0 s (B3 s m (-1)) v1 v2]⟩, some ⟨AS, 1, Ge A.length + 1 + 1, false, X.map eI⟩]) (idx := 7) (id := 2 * s.mo.length + 7 + 1 + 1 + 1 + 1 + 1 + 1 + 1) (X := X) (v := Ge A.length + 1 + 1) (by show _ = 2 * s.mo.length + 7 + 7; omega) rfl
     simp only [Cj, go_sem, ↓reduceIte, hfM]
     have hsz2 := A0d hs hz (m : Int) (-1) hjl hL' hll (a := a) (X := X) (by omega)
     have hfm := fun (Q : VV → Prop) => Ca C t ht _ hsz2 (Q := Q)
     have eM : (B3 s m (-1)).mo = s.mo := rfl
     simp only [eM] at hfm ⊢
     cases hff : Bq t ⟨(B3 s m (-1)).has, (B3 s m (-1)).jf, s.mo.set loc (L.set a X)⟩ with
     | false =>
      rw [if_neg (by decide)]
      simp only [Cj, go_sem, ↓reduceIte, p8, p10, hj2 1, hj2 2, hj2 6, R0, hfm, hff]
      rfl
     | true =>
      rw [if_pos rfl]
      simp only [Cj, go_sem, ↓reduceIte, p8, p10, hj2 1, hj2 2, hj2 6, R0, hfm, hff]
      obtain ⟨ids2, hfM2⟩ := Sb (f := 5) (d := 1) rfl hll hL' c3 (some ⟨A7, 0, 0, false, [R0 s (B3 s m (-1)) v1 v2]⟩) (some ⟨A7, 0, 0, false, [R0 s (B3 s m (-1)) v1 v2]⟩) (some ⟨A7, 0, 0, false, [[.sl 3 (Ge s.has.length) 0 s.has.length, .sl 4 (Ge s.jf.length) 0 s.jf.length, .sl 6 (DX s.mo s.mo.length).length 0 (DX s.mo s.mo.length).length]]⟩) (some (Py AS 1 (s.has.map eI))) (some (Py AS 1 (s.jf.map eI))) (some ⟨A7, 0, 0, false, [[.sl 3 (Ge s.has.length) 0 s.has.length, .sl 4 (Ge s.jf.length) 0 s.jf.length, .sl 6 (DX s.mo s.mo.length).length 0 (DX s.mo s.mo.length).length]]⟩) (some (AP Be 1 (DX s.mo s.mo.length)))
       (Y := [some ⟨A7, 0, 0, false, [R0 s (B3 s m (-1)) v1 v2]⟩, some ⟨AS, 1, v1, false, (B3 s m (-1)).has.map eI⟩, some ⟨AS, 1, v2, false, (B3 s m (-1)).jf.map eI⟩, some Dv, some Dv, some Dv, some ⟨A7, 0, 0, false, [R0 s (B3 s m (-1)) v1 v2]⟩, some ⟨AS, 1, Ge A.length + 1 + 1, false, X.map eI⟩]) (idx := 7) (id := 2 * s.mo.length + 7 + 1 + 1 + 1 + 1 + 1 + 1 + 1) (X := X) (v := Ge A.length + 1 + 1) (by show _ = 2 * s.mo.length + 7 + 7; omega) rfl
      simp only [Cj, go_sem, ↓reduceIte, hfM2]
      rfl
   ·have e : i = BI c m := by omega
    obtain ⟨A, hA⟩ : ∃ A, A = c.take i := ⟨_, rfl⟩
    obtain ⟨B, hB⟩ : ∃ B, B = c.drop i := ⟨_, rfl⟩
    have lA : A.length = i := by rw [hA, List.length_take]; omega
    have lB : B.length = c.length - i := by rw [hB, List.length_drop]
    have k1 : i ≤ c.length := by omega
    have b1 : A.length * 8 ≤ A5 := by unfold A5; omega
    have b2 : (A.length + 1) * 8 ≤ A5 := by unfold A5; omega
    obtain rfl : B = [] := List.length_eq_zero_iff.1 (by omega)
    have tB : List.take (c.length - i) ([] : List Int) = [] := List.take_nil
    have b3 : (A.length + 1 + 0) * 8 ≤ A5 := by unfold A5; omega
    obtain ⟨X, hX⟩ : ∃ X, X = A ++ [(m : Int)] := ⟨_, rfl⟩
    have lX : A.length + 1 = X.length := by rw [hX]; simp
    have b4 : X.length * 8 ≤ A5 := by rw [← lX]; exact b2
    have b5 : (X.length + 0) * 8 ≤ A5 := b4
    have eX : X = BL c (BI c m) m := by rw [hX, BL, ← e, ← hA, ← hB]
    rw [← eX]
    simp only [UA, Cj, go_sem, ↓reduceIte, p2, p3, p4, p8, p10, p12, p13, p14, ci, A0, joH, moE, List.cons_append, List.append_assoc, List.nil_append, hT, hat, hTa, hll, hlr, hix, hix2, hao, hj 6, hj 7, hsj 6, hsj 7, hsl, hj2 1, hj2 2, hj2 6, hj2 7, hs2 6, hs2 7, hat2, dne, dn6, dnl, k1, ← hA, ← hB, tB, b1, b2, b3, b4, b5, lX, ← hX, c3, hca, List.length_append, List.length_map]
    obtain ⟨ids, hfM⟩ := Sb (f := 6) (d := 2) rfl hll hL' c3 (some ⟨A7, 0, 0, false, [[.nl, .nl, .nl]]⟩) (some ⟨A7, 0, 0, false, [R0 s (B3 s m (-1)) v1 v2]⟩) (some ⟨A7, 0, 0, false, [[.sl 3 (Ge s.has.length) 0 s.has.length, .sl 4 (Ge s.jf.length) 0 s.jf.length, .sl 6 (DX s.mo s.mo.length).length 0 (DX s.mo s.mo.length).length]]⟩) (some (Py AS 1 (s.has.map eI))) (some (Py AS 1 (s.jf.map eI))) (some ⟨A7, 0, 0, false, [[.sl 3 (Ge s.has.length) 0 s.has.length, .sl 4 (Ge s.jf.length) 0 s.jf.length, .sl 6 (DX s.mo s.mo.length).length 0 (DX s.mo s.mo.length).length]]⟩) (some (AP Be 1 (DX s.mo s.mo.length)))
     (Y := [some ⟨A7, 0, 0, false, [R0 s (B3 s m (-1)) v1 v2]⟩, some ⟨AS, 1, v1, false, (B3 s m (-1)).has.map eI⟩, some ⟨AS, 1, v2, false, (B3 s m (-1)).jf.map eI⟩, some Dv, some Dv, some Dv, some ⟨A7, 0, 0, false, [R0 s (B3 s m (-1)) v1 v2]⟩, some ⟨AS, 1, Ge A.length + 1, false, X.map eI⟩]) (idx := 7) (id := 2 * s.mo.length + 7 + 1 + 1 + 1 + 1 + 1 + 1 + 1) (X := X) (v := Ge A.length + 1) (by show _ = 2 * s.mo.length + 7 + 7; omega) rfl
    simp only [Cj, go_sem, ↓reduceIte, hfM]
    have hsz2 := A0d hs hz (m : Int) (-1) hjl hL' hll (a := a) (X := X) (by omega)
    have hfm := fun (Q : VV → Prop) => Ca C t ht _ hsz2 (Q := Q)
    have eM : (B3 s m (-1)).mo = s.mo := rfl
    simp only [eM] at hfm ⊢
    cases hff : Bq t ⟨(B3 s m (-1)).has, (B3 s m (-1)).jf, s.mo.set loc (L.set a X)⟩ with
    | false =>
     rw [if_neg (by decide)]
     simp only [Cj, go_sem, ↓reduceIte, p8, p10, hj2 1, hj2 2, hj2 6, R0, hfm, hff]
     rfl
    | true =>
     rw [if_pos rfl]
     simp only [Cj, go_sem, ↓reduceIte, p8, p10, hj2 1, hj2 2, hj2 6, R0, hfm, hff]
     obtain ⟨ids2, hfM2⟩ := Sb (f := 5) (d := 1) rfl hll hL' c3 (some ⟨A7, 0, 0, false, [R0 s (B3 s m (-1)) v1 v2]⟩) (some ⟨A7, 0, 0, false, [R0 s (B3 s m (-1)) v1 v2]⟩) (some ⟨A7, 0, 0, false, [[.sl 3 (Ge s.has.length) 0 s.has.length, .sl 4 (Ge s.jf.length) 0 s.jf.length, .sl 6 (DX s.mo s.mo.length).length 0 (DX s.mo s.mo.length).length]]⟩) (some (Py AS 1 (s.has.map eI))) (some (Py AS 1 (s.jf.map eI))) (some ⟨A7, 0, 0, false, [[.sl 3 (Ge s.has.length) 0 s.has.length, .sl 4 (Ge s.jf.length) 0 s.jf.length, .sl 6 (DX s.mo s.mo.length).length 0 (DX s.mo s.mo.length).length]]⟩) (some (AP Be 1 (DX s.mo s.mo.length)))
      (Y := [some ⟨A7, 0, 0, false, [R0 s (B3 s m (-1)) v1 v2]⟩, some ⟨AS, 1, v1, false, (B3 s m (-1)).has.map eI⟩, some ⟨AS, 1, v2, false, (B3 s m (-1)).jf.map eI⟩, some Dv, some Dv, some Dv, some ⟨A7, 0, 0, false, [R0 s (B3 s m (-1)) v1 v2]⟩, some ⟨AS, 1, Ge A.length + 1, false, X.map eI⟩]) (idx := 7) (id := 2 * s.mo.length + 7 + 1 + 1 + 1 + 1 + 1 + 1 + 1) (X := X) (v := Ge A.length + 1) (by show _ = 2 * s.mo.length + 7 + 7; omega) rfl
     simp only [Cj, go_sem, ↓reduceIte, hfM2]
     rfl
  ·simp only [Cj, go_sem, ↓reduceIte]
  ·simp only [Cj, go_sem, ↓reduceIte]
  ·simp only [Cj, go_sem, ↓reduceIte]
  ·simp only [Cj, go_sem, ↓reduceIte]
  ·simp only [Cj, go_sem, ↓reduceIte]
  ·simp only [Cj, go_sem, ↓reduceIte]
  ·simp only [Cj, go_sem, ↓reduceIte]
  ·simp only [Cj, go_sem, ↓reduceIte]
  ·simp only [Cj, go_sem, ↓reduceIte, joH, moE]
end
end Go.AM

namespace Go.AM
open Go Go.Proofs
theorem KC.kind {t : A4} : ∀ {n u e : Nat}, KC t n u e → ∀ m, u < m → m < e → (t.at m).kind = 2 ∨ (t.at m).kind = 3 ∨ (t.at m).kind = 4 := by
 intro n
 induction n with
 | zero => intro u e h; exact absurd h (by simp [KC])
 | succ n ih =>
  intro u e h m h1 h2
  obtain ⟨⟨_, ht, _⟩, h⟩ := h
  rcases h with ⟨_, _, rfl⟩ | ⟨c, _, _, al, hb⟩ | ⟨c, _, _, vals, k, loc, mode, _, _, hk0, hke, hloc, hs, _⟩
  ·omega
  ·by_cases e1 : m = u + 1
   ·subst e1
    simp only [DD, Bool.or_eq_true, Bool.and_eq_true, decide_eq_true_eq] at al
    rcases al with h | h
    ·exact .inr (.inr h.1.1.1.1.1)
    ·exact .inr (.inl h.1.1.1)
   ·exact ih hb m (by omega) h2
  ·obtain ⟨v, hv, a, b⟩ := Lk (k := k) (m := m) vals (by omega) (by omega)
   obtain ⟨s1, s2, s3⟩ := hs v hv
   by_cases e1 : m = k v
   ·subst e1
    simp only [EX, Bool.and_eq_true, decide_eq_true_eq] at s2
    exact .inl s2.1.1.1.1
   ·exact ih s3 m (by omega) b
theorem Aj.kind {t : A4} (h : Aj t) {m : Nat} (h2 : m < t.nodes.length) (h3 : 0 ≤ (t.at m).up) : (t.at m).kind = 2 ∨ (t.at m).kind = 3 ∨ (t.at m).kind = 4 := by
 by_cases c : m < t.locs.length
 ·have := (h.init m c).up; omega
 ·obtain ⟨s, h0, he, hs⟩ := h.thr
  obtain ⟨v, hv, a, b⟩ := Lk (k := s) (m := m) t.regs.length (by omega) (by omega)
  obtain ⟨hb, n, hn⟩ := hs v hv
  by_cases e1 : m = s v
  ·subst e1
   simp only [Gu, Bool.and_eq_true, decide_eq_true_eq] at hb
   have := hb.1.1.1.1.1.2
   omega
  ·exact hn.kind m (by omega) b
structure Gr (t : A4) (s : A9) (k : Nat) : Prop where
 big : Big t s k
 ok : ∀ x ∈ s.has, Ch t x = true
theorem Gr.sz {t : A4} (ht : Aj t) {s : A9} {k : Nat} (h : Gr t s k) (hk : k ≤ 100) : Kp s := h.big.sz ht hk
theorem Gr.sz' {t : A4} {s : A9} {k : Nat} (h : Gr t s k) (hk : k ≤ 100) : s.has.length < 1000 ∧ s.jf.length < 1000 ∧ ∀ l ∈ s.mo, ∀ c ∈ l, c.length < 1000 :=
 ⟨by have := h.big.has; omega, by have := h.big.jf; omega, fun l hl c hc => by have := h.big.mc l hl c hc; omega⟩
theorem A4t {t : A4} (ht : Aj t) : Gr t (JP t) 0 := by
 refine ⟨A3A ht, fun x hx => ?_⟩
 simp only [JP, Ei, List.mem_map, List.mem_filter, List.mem_range] at hx
 obtain ⟨i, ⟨hi, _⟩, rfl⟩ := hx
 exact EM hi
theorem NH {t : A4} {s s' : A9} {k : Nat} (h : Gr t s k) {n kind w : Int} (e : D7 t s n kind w = some s') : Gr t s' (k + 1) := by
 unfold D7 at e
 split at e
 ·rename_i hok
  cases e
  simp only [C0, Bq, Bool.and_eq_true, decide_eq_true_eq] at hok
  refine ⟨A6l h.big hok.1.1.1.1.1.1.1.1.2 n w, ?_⟩
  intro x hx
  simp only [B3, BL, List.mem_append, List.mem_cons] at hx
  rcases hx with hx | rfl | hx
  ·exact h.ok x (List.mem_of_mem_take hx)
  ·exact hok.1.1.1.2
  ·exact h.ok x (List.mem_of_mem_drop hx)
 ·cases e
theorem A9m {t : A4} {s s' : A9} {k : Nat} (h : Gr t s k) {n w : Int} (e : Nf t s n w = some s') : Gr t s' (k + 1) := by
 unfold Nf at e
 split at e
 ·rename_i x hx
  split at e
  ·cases e; exact NH h hx
  ·cases e
 ·cases e
theorem A3O {t : A4} {s : A9} {k loc : Nat} (h : Gr t s (k + 1)) {L : List (List Int)} (h0 : L ≠ []) (h1 : L.length ≤ 2 + k) (h2 : ∀ c ∈ L, c.length ≤ 2 + k) : Gr t { s with mo := s.mo.set loc L } (k + 1) := by
 refine ⟨⟨h.big.has, h.big.jf, by rw [List.length_set]; exact h.big.mo, ?_, ?_⟩, h.ok⟩
 ·intro l hl
  rcases List.mem_or_eq_of_mem_set hl with hl | rfl
  ·exact h.big.mi l hl
  ·exact ⟨h0, by omega⟩
 ·intro l hl c hc
  rcases List.mem_or_eq_of_mem_set hl with hl | rfl
  ·exact h.big.mc l hl c hc
  ·have := h2 c hc; omega
theorem Big.row {t : A4} {s : A9} {k : Nat} (h : Big t s k) (loc : Nat) : (s.mo.getD loc []).length ≤ 1 + k ∧ ∀ c ∈ s.mo.getD loc [], c.length ≤ 1 + k := by
 by_cases hl : loc < s.mo.length
 ·have := Au (d := []) hl
  exact ⟨(h.mi _ this).2, fun c hc => h.mc _ this c hc⟩
 ·rw [List.getD_eq_getElem?_getD, List.getElem?_eq_none (by omega)]
  simp
theorem A1C {t : A4} {s s' : A9} {n kind w : Int} (e : D7 t s n kind w = some s') : s'.mo = s.mo := by
 unfold D7 at e
 split at e
 ·cases e; rfl
 ·cases e
theorem X3 {t : A4} {s s' : A9} {k : Nat} (h : Gr t s k) {n w : Int} (e : Hn t s n w = some s') : Gr t s' (k + 1) := by
 unfold Hn at e
 split at e
 ·rename_i x hx
  have hg := NH h hx
  have hm := A1C hx
  split at e
  ·cases e
  ·cases e
   have hr := h.big.row (t.at n.toNat).loc.toNat
   rw [← hm] at hr
   refine A3O hg (by simp) ?_ ?_
   ·simp only [List.length_append, List.length_cons, List.length_take, List.length_drop]; omega
   ·intro c hc
    simp only [List.mem_append, List.mem_cons] at hc
    rcases hc with hc | rfl | hc
    ·have := hr.2 c (List.mem_of_mem_take hc); omega
    ·simp; omega
    ·have := hr.2 c (List.mem_of_mem_drop hc); omega
 ·cases e
theorem A7x {t : A4} {s s' : A9} {k : Nat} (h : Gr t s k) {n w : Int} (e : Nb t s n w = some s') : Gr t s' (k + 1) := by
 unfold Nb at e
 split at e
 ·rename_i x hx
  have hg := NH h hx
  have hm := A1C hx
  simp only at e
  split at e
  ·cases e
  ·rename_i hw
   split at e
   ·cases e
    have hr := h.big.row (t.at n.toNat).loc.toNat
    rw [← hm] at hr
    refine A3O hg ?_ ?_ ?_
    ·intro h0
     have := congrArg List.length h0
     rw [List.length_set] at this
     simp only [List.length_nil] at this
     omega
    ·rw [List.length_set]; omega
    ·intro c hc
     rcases List.mem_or_eq_of_mem_set hc with hc | rfl
     ·have := hr.2 c hc; omega
     ·have h1 := E5 ((x.mo.getD (t.at n.toNat).loc.toNat []).getD w.toNat []) n
      rw [EV h1]
      have := hr.2 _ (Au (d := []) (show w.toNat < (x.mo.getD (t.at n.toNat).loc.toNat []).length by omega))
      omega
   ·cases e
 ·cases e
def DS (t : A4) (s : A9) (i : Nat) : Bool := decide (0 ≤ (t.at i).up) && BB s.has (t.at i).up && !BB s.has i
def G0 (t : A4) (s : A9) (k : Nat) : List Int := ((List.range k).filter (DS t s)).map fun (i : Nat) => (i : Int)
theorem A8T {t : A4} {s : A9} {k : Nat} (h : DS t s k = true) : G0 t s (k + 1) = G0 t s k ++ [(k : Int)] := by
 unfold G0
 rw [List.range_succ, List.filter_append, List.map_append]
 simp only [List.filter_cons, List.filter_nil, h, if_true, List.map_cons, List.map_nil]
theorem S4 {t : A4} {s : A9} {k : Nat} (h : DS t s k = false) : G0 t s (k + 1) = G0 t s k := by
 unfold G0
 rw [List.range_succ, List.filter_append, List.map_append]
 simp [h]
theorem A3J {t : A4} {s : A9} (k : Nat) : (G0 t s k).length ≤ k := by
 unfold G0
 rw [List.length_map]
 exact Nat.le_trans (List.length_filter_le _ _) (by simp)
theorem A2Z {t : A4} {s : A9} {k : Nat} {x : Int} (h : x ∈ G0 t s k) : ∃ m : Nat, x = m ∧ m < k ∧ DS t s m = true := by
 simp only [G0, List.mem_map, List.mem_filter, List.mem_range] at h
 obtain ⟨i, ⟨hi, h⟩, rfl⟩ := h
 exact ⟨i, rfl, hi, h⟩
/-- May x read what y writes? -/
def JO (t : A4) (n : Nat) (y : Int) : Bool := decide ((t.at y.toNat).kind = 3) && decide ((t.at y.toNat).loc = (t.at n).loc) && decide ((t.at y.toNat).val = (t.at n).val)
theorem A1u {l : List Int} {k : Nat} (hk : k < l.length) : l.take (k + 1) = l.take k ++ [l.getD k 0] := by
 rw [List.take_succ_eq_append_getElem hk, List.getD_eq_getElem?_getD, List.getElem?_eq_getElem hk]; rfl
def QI (t : A4) (s : A9) (n k : Nat) : List Int := (s.has.take k).filter (JO t n)
theorem Aae {t : A4} {s : A9} {n k : Nat} (hk : k < s.has.length) (h : JO t n (s.has.getD k 0) = true) : QI t s n (k + 1) = QI t s n k ++ [s.has.getD k 0] := by
 unfold QI
 rw [A1u hk, List.filter_append]
 simp only [List.filter_cons, List.filter_nil, h, if_true, Bool.false_eq_true, if_false, List.append_nil]
theorem YN {t : A4} {s : A9} {n k : Nat} (hk : k < s.has.length) (h : JO t n (s.has.getD k 0) = false) : QI t s n (k + 1) = QI t s n k := by
 unfold QI
 rw [A1u hk, List.filter_append]
 simp only [List.filter_cons, List.filter_nil, h, if_true, Bool.false_eq_true, if_false, List.append_nil]
theorem A3Z {t : A4} {s : A9} {n : Nat} (k : Nat) : (QI t s n k).length ≤ s.has.length := by
 unfold QI
 refine Nat.le_trans (List.length_filter_le _ _) ?_
 rw [List.length_take]; omega
def HQ (t : A4) (s : A9) (a b : Nat) : Option A9 :=
 let l := G0 t s t.nodes.length
 if l.length = 0 then none else
  let n := l.getD (a % l.length) 0
  let x := t.at n.toNat
  if x.kind = 4 then D7 t s n 4 (-1) else
   if x.kind = 2 then
    let w := QI t s n.toNat s.has.length
    if w.length = 0 then none else Nf t s n (w.getD (b % w.length) 0)
   else
    let k := (s.mo.getD x.loc.toNat []).length
    let o := Hn t s n ((1 + b / 3 % k : Nat) : Int)
    if b % 3 = 0 ∧ 1 < k then (match Nb t s n ((1 + b / 3 % (k - 1) : Nat) : Int) with
     | some s' => some s'
     | none => o) else o
theorem A8R {t : A4} {s s' : A9} {k a b : Nat} (h : Gr t s k) (e : HQ t s a b = some s') : Gr t s' (k + 1) := by
 unfold HQ at e
 simp only at e
 split at e
 ·cases e
 ·split at e
  ·exact NH h e
  ·split at e
   ·split at e
    ·cases e
    ·exact A9m h e
   ·split at e
    ·split at e
     ·rename_i s2 hj
      cases e; exact A7x h hj
     ·exact X3 h e
    ·exact X3 h e
theorem Gr.mono {t : A4} {s : A9} {k j : Nat} (h : Gr t s k) (hk : k ≤ j) : Gr t s j := ⟨h.big.mono hk, h.ok⟩
def PG (m : List U8) (i : Nat) : Nat := (m.getD i ⟨0⟩).n
theorem AdP {m : List U8} {i : Nat} (h : i < m.length) : m[i]? = some ⟨PG m i⟩ := by
 rw [PG, List.getD_eq_getElem?_getD, List.getElem?_eq_getElem h]; rfl
theorem A66 {m : List U8} (hm : ∀ x ∈ m, x.n < 256) (i : Nat) : PG m i < 256 := by
 unfold PG
 rw [List.getD_eq_getElem?_getD]
 cases h : m[i]? with
 | none => decide
 | some x => exact hm x (List.mem_of_getElem? h)
def Ci (t : A4) (m : List U8) : Nat → A9
 | 0 => JP t
 | k + 1 => (match HQ t (Ci t m k) (PG m (2 * k)) (PG m (2 * k + 1)) with
  | some s => s
  | none => Ci t m k)
theorem Mo {t : A4} {m : List U8} {k : Nat} {s : A9} (e : HQ t (Ci t m k) (PG m (2 * k)) (PG m (2 * k + 1)) = some s) : Ci t m (k + 1) = s := by rw [Ci, e]
theorem MB {t : A4} {m : List U8} {k : Nat} (e : HQ t (Ci t m k) (PG m (2 * k)) (PG m (2 * k + 1)) = none) : Ci t m (k + 1) = Ci t m k := by rw [Ci, e]
theorem NO {t : A4} (ht : Aj t) (m : List U8) : ∀ k, Gr t (Ci t m k) k
 | 0 => A4t ht
 | k + 1 => by
  have h := NO ht m k
  cases e : HQ t (Ci t m k) (PG m (2 * k)) (PG m (2 * k + 1)) with
  | some s => rw [Mo e]; exact A8R h e
  | none => rw [MB e]; exact h.mono (by omega)
end Go.AM

namespace Go.AM
open Go Go.Proofs
section
variable {V : Ao} (C : AL V) {Q : VV → Prop}
include C
set_option maxHeartbeats 4000000 in
theorem Wn (t : A4) (ht : Aj t) (s : A9) (hs : Kp s) : VP V A0E [vT t, Lc s] Q ↔ Q (lI (G0 t s t.nodes.length)) := by
 refine Aa ?_
 rw [A8 C.c_z57.1 C.c_z57.2]
 have h64 := ht.n64
 have hle := hs.has
 simp only [A71, HX, go_sem, ↓reduceIte]
 refine Am (by decide) t.nodes.length (by omega) (I := fun k F h => A3.tmp F 2 = .fp (eT t) 0 ∧ A3.tmp F 3 = .fp (UQ s) 0 ∧ ∃ L, L = G0 t s k ∧ A3.tmp F 5 = .sl 0 L.length 0 L.length ∧ h = [some (AP AS 1 (L.map eI))]) ?_ ?_ ?_ 0 _ _ (Nat.zero_le _) ?_ ?_
 ·rintro k F h hk p6 ⟨p2, p3, L, hL, p5, rfl⟩
  simp only [HX, go_sem, ↓reduceIte, p2, p3, p5, p6]
  exact ⟨L, hL, rfl, rfl⟩
 ·rintro k F h hk p6 ⟨p2, p3, L, hL, p5, rfl⟩
  have hlen := A3J (t := t) (s := s) k
  have w1 := EC s.has (t.at k).up
  have w2 := Cb s.has (k : Int)
  have b1 : (L.length + 1) * 8 ≤ A5 := by rw [← hL] at hlen; unfold A5; omega
  cases c1 : decide (0 ≤ (t.at k).up) with
  | false =>
   have e : DS t s k = false := by simp [DS, c1]
   simp only [HX, go_sem, ↓reduceIte, p2, p3, p5, p6, hk, A6 hk, c1, A0]
   exact ⟨L, by rw [S4 e]; exact hL, rfl, rfl⟩
  | true =>
  cases c2 : BB s.has (t.at k).up with
  | false =>
   rw [c2] at w1
   have e : DS t s k = false := by simp [DS, c2]
   simp only [HX, go_sem, ↓reduceIte, p2, p3, p5, p6, hk, A6 hk, c1, Al C s.has (by omega), w1, A0]
   exact ⟨L, by rw [S4 e]; exact hL, rfl, rfl⟩
  | true =>
  rw [c2] at w1
  cases c3 : BB s.has (k : Int) with
  | true =>
   rw [c3] at w2
   have e : DS t s k = false := by simp [DS, c3]
   simp only [HX, go_sem, ↓reduceIte, p2, p3, p5, p6, hk, A6 hk, c1, Al C s.has (by omega), w1, w2, A0]
   exact ⟨L, by rw [S4 e]; exact hL, rfl, rfl⟩
  | false =>
   rw [c3] at w2
   have e : DS t s k = true := by simp only [DS, c1, c2, c3]; rfl
   simp only [HX, go_sem, ↓reduceIte, p2, p3, p5, p6, hk, A6 hk, c1, Al C s.has (by omega), w1, w2, A0, b1, A47, List.length_append, List.length_map]
   exact ⟨L ++ [(k : Int)], by rw [A8T e, hL], by simp, rfl⟩
 ·rintro F h ⟨p2, p3, L, hL, p5, rfl⟩
  subst hL
  simp only [HX, go_sem, ↓reduceIte, p2, p3, p5, List.length_map]
 ·simp only [HX, go_sem, ↓reduceIte]
 ·simp only [HX, go_sem, ↓reduceIte]
  exact ⟨[], rfl, rfl, rfl⟩
end
end Go.AM

namespace Go.AM
open Go Go.Proofs
theorem He {e : Option Nx} {a l : Nat} (h : 0 < l) : AT .rem e (.i .i64 (a : Int)) (.i .i64 (l : Int)) = some (.i .i64 ((a % l : Nat) : Int)) := by
 rw [EQ (by omega), Int.tmod_eq_emod_of_nonneg (by omega), Int.natCast_emod]
theorem X9 {e : Option Nx} {a l : Nat} (h : 0 < l) (ha : a ≤ 1000000) : AT .quo e (.i .i64 (a : Int)) (.i .i64 (l : Int)) = some (.i .i64 ((a / l : Nat) : Int)) := by
 have := Nat.div_le_self a l
 have w : IntKind.i64.wrap ((a / l : Nat) : Int) = ((a / l : Nat) : Int) := by
  generalize a / l = q at this ⊢
  exact AC (by omega) (by omega)
 rw [A6Q (by omega), Int.tdiv_eq_ediv_of_nonneg (by omega), ← Int.natCast_ediv, w]
theorem Cn (s : A9) : GX (some s) = .tu [Lc s, .b true] := rfl
theorem C7 : GX none = .tu [Lc NE, .b false] := rfl
def nxH (n : Ax) (W : List Int) : VH := [some ⟨A7, 0, 0, false, [[.nl, .nl, .nl]]⟩, some ⟨BY, 0, 0, false, [eN n]⟩, some (AP AS 1 (W.map eI))]
section
variable {V : Ao} (C : AL V) {Q : VV → Prop}
include C
set_option maxRecDepth 4000 in
set_option maxHeartbeats 8000000 in
theorem Xm (t : A4) (ht : Aj t) (s : A9) {k : Nat} (hg : Gr t s k) (hk : k ≤ 90) (a b : Nat) (ha : a < 256) (hb : b < 256) : VP V A1q [vT t, Lc s, .i .i64 a, .i .i64 b] Q ↔ Q (GX (HQ t s a b)) := by
 have hs := hg.sz ht (by omega)
 have hz := hg.sz' (by omega)
 refine Aa ?_
 rw [A8 C.c_z22.1 C.c_z22.2]
 have h64 := ht.n64
 have hfr := fun (Q : VV → Prop) => Wn C t ht s hs (Q := Q)
 unfold HQ
 obtain ⟨l, hl⟩ : ∃ l, l = G0 t s t.nodes.length := ⟨_, rfl⟩
 rw [← hl] at hfr ⊢
 simp only
 cases c0 : decide (l.length = 0) with
 | true =>
  have c0' := of_decide_eq_true c0
  have c0i : decide ((l.length : Int) = 0) = true := decide_eq_true (by omega)
  rw [if_pos c0', C7]
  simp only [H5, CG, go_sem, ↓reduceIte, hfr, c0, c0i, NE, List.length_map]
  rfl
 | false =>
 have c0' := of_decide_eq_false c0
 have c0i : decide ((l.length : Int) = 0) = false := decide_eq_false (by omega)
 rw [if_neg c0']
 have r1 := He (e := none) (a := a) (l := l.length) (by omega)
 have hal : a % l.length < l.length := Nat.mod_lt _ (by omega)
 obtain ⟨n, hn, hnl, hfree⟩ := A2Z (show l.getD (a % l.length) 0 ∈ G0 t s t.nodes.length from by rw [← hl]; exact Au hal)
 have g1 := Ay hal
 rw [hn] at g1 ⊢
 rw [Int.toNat_natCast]
 have hup : 0 ≤ (t.at n).up := by simp only [DS, Bool.and_eq_true, decide_eq_true_eq] at hfree; exact hfree.1.1
 have hkind := ht.kind hnl hup
 cases c4 : decide ((t.at n).kind = 4) with
 | true =>
  rw [if_pos (of_decide_eq_true c4)]
  have hbar := fun (Q : VV → Prop) => VX C t ht s hs n (Q := Q)
  cases hm : D7 t s n 4 (-1) with
  | none =>
   rw [hm, C7] at hbar
   rw [C7]
   simp only [H5, CG, go_sem, ↓reduceIte, hfr, c0, c0i, r1, g1, hal, hnl, A6 hnl, c4, hbar, NE, List.length_map, A0]
   rfl
  | some s' =>
   rw [hm, Cn] at hbar
   rw [Cn]
   simp only [H5, CG, go_sem, ↓reduceIte, hfr, c0, c0i, r1, g1, hal, hnl, A6 hnl, c4, hbar, List.length_map, A0]
 | false =>
 have c4' := of_decide_eq_false c4
 rw [if_neg c4']
 cases c2 : decide ((t.at n).kind = 2) with
 | true =>
  rw [if_pos (of_decide_eq_true c2)]
  have hle := hs.has
  simp only [H5, CG, go_sem, ↓reduceIte, hfr, c0, c0i, r1, g1, hal, hnl, A6 hnl, c4, c2, List.length_map, A0]
  refine Am (by decide) s.has.length (by omega) (I := fun i F h => A3.tmp F 3 = .i .i64 b ∧ A3.tmp F 4 = .fp (eT t) 0 ∧ A3.tmp F 5 = .fp (UQ s) 0 ∧ A3.tmp F 8 = .p 0 0 0 0 ∧ A3.tmp F 11 = .i .i64 n ∧ A3.tmp F 12 = .p 1 0 0 0 ∧ ∃ W, W = QI t s n i ∧ A3.tmp F 13 = .sl 2 W.length 0 W.length ∧ h = nxH (t.at n) W) ?_ ?_ ?_ 0 _ _ (Nat.zero_le _) ?_ ?_
  ·rintro i F h hi p14 ⟨p3, p4, p5, p8, p11, p12, W, hW, p13, rfl⟩
   simp only [CG, go_sem, ↓reduceIte, p3, p4, p5, p8, p11, p12, p13, p14]
   exact ⟨W, hW, rfl, rfl⟩
  ·rintro i F h hi p14 ⟨p3, p4, p5, p8, p11, p12, W, hW, p13, rfl⟩
   have hlen := A3Z (t := t) (s := s) (n := n) i
   rw [← hW] at hlen
   have b1 : (W.length + 1) * 8 ≤ A5 := by unfold A5; omega
   obtain ⟨y, hy, hyl⟩ := Aq (hg.ok _ (Au hi))
   have g2 := Ay hi
   rw [hy] at g2
   cases d1 : decide ((t.at y).kind = 3) with
   | false =>
    have e : JO t n (s.has.getD i 0) = false := by rw [hy]; simp only [JO, Int.toNat_natCast, d1]; rfl
    simp only [CG, go_sem, ↓reduceIte, p3, p4, p5, p8, p11, p12, p13, p14, hi, g2, hyl, A6 hyl, d1, nxH, A0]
    exact ⟨W, by rw [YN hi e]; exact hW, rfl, rfl⟩
   | true =>
   cases d2 : decide ((t.at y).loc = (t.at n).loc) with
   | false =>
    have e : JO t n (s.has.getD i 0) = false := by rw [hy]; simp only [JO, Int.toNat_natCast, d1, d2]; rfl
    simp only [CG, go_sem, ↓reduceIte, p3, p4, p5, p8, p11, p12, p13, p14, hi, g2, hyl, A6 hyl, d1, d2, nxH, A0]
    exact ⟨W, by rw [YN hi e]; exact hW, rfl, rfl⟩
   | true =>
   cases d3 : decide ((t.at y).val = (t.at n).val) with
   | false =>
    have e : JO t n (s.has.getD i 0) = false := by rw [hy]; simp only [JO, Int.toNat_natCast, d1, d2, d3]; rfl
    simp only [CG, go_sem, ↓reduceIte, p3, p4, p5, p8, p11, p12, p13, p14, hi, g2, hyl, A6 hyl, d1, d2, d3, nxH, A0]
    exact ⟨W, by rw [YN hi e]; exact hW, rfl, rfl⟩
   | true =>
    have e : JO t n (s.has.getD i 0) = true := by rw [hy]; simp only [JO, Int.toNat_natCast, d1, d2, d3]; rfl
    simp only [CG, go_sem, ↓reduceIte, p3, p4, p5, p8, p11, p12, p13, p14, hi, g2, hyl, A6 hyl, d1, d2, d3, nxH, A0, b1, A47, List.length_append, List.length_map]
    exact ⟨W ++ [(y : Int)], by rw [Aae hi e, hW, hy], by simp, rfl⟩
  ·rintro F h ⟨p3, p4, p5, p8, p11, p12, W, hW, p13, rfl⟩
   rw [← hW]
   cases d0 : decide (W.length = 0) with
   | true =>
    have d0' := of_decide_eq_true d0
    have d0i : decide ((W.length : Int) = 0) = true := decide_eq_true (by omega)
    rw [if_pos d0', C7]
    simp only [CG, go_sem, ↓reduceIte, p3, p4, p5, p8, p11, p12, p13, d0, d0i, nxH, NE]
    rfl
   | false =>
    have d0' := of_decide_eq_false d0
    have d0i : decide ((W.length : Int) = 0) = false := decide_eq_false (by omega)
    rw [if_neg d0']
    have r2 := He (e := none) (a := b) (l := W.length) (by omega)
    have hbl : b % W.length < W.length := Nat.mod_lt _ (by omega)
    have g3 := Ay hbl
    obtain ⟨x, hx⟩ : ∃ x, x = W.getD (b % W.length) 0 := ⟨_, rfl⟩
    rw [← hx] at g3 ⊢
    have hix := Gw (ty := AS) (e := 1) (rows := W.map eI) (by rw [List.length_map]; omega)
    have hread := fun (Q : VV → Prop) => Uf C t ht s hs ⟨hz.1, hz.2.1⟩ n x (Q := Q)
    cases hm : Nf t s n x with
    | none =>
     rw [hm, C7] at hread
     rw [C7]
     simp only [CG, go_sem, ↓reduceIte, p3, p4, p5, p8, p11, p12, p13, d0, d0i, r2, g3, hbl, hix, hread, nxH, NE, List.length_map]
     rfl
    | some s' =>
     rw [hm, Cn] at hread
     rw [Cn]
     simp only [CG, go_sem, ↓reduceIte, p3, p4, p5, p8, p11, p12, p13, d0, d0i, r2, g3, hbl, hix, hread, nxH, List.length_map]
  ·simp only [CG, go_sem, ↓reduceIte]
  ·simp only [CG, go_sem, ↓reduceIte]
   exact ⟨[], rfl, rfl, rfl⟩
 | false =>
 have c2' := of_decide_eq_false c2
 rw [if_neg c2']
 have c3 : (t.at n).kind = 3 := by omega
 obtain ⟨l0, l1⟩ := ht.wloc hnl (.inr c3)
 obtain ⟨loc, hloc⟩ := Int.eq_ofNat_of_zero_le l0
 have hll : loc < s.mo.length := by have := hg.big.mo; omega
 simp only [hloc, Int.toNat_natCast]
 obtain ⟨L, hL⟩ : ∃ L, L = s.mo.getD loc [] := ⟨_, rfl⟩
 have gL := Ct hll
 rw [← hL] at gL ⊢
 have hm := hs.mi' loc
 rw [← hL] at hm
 have hL0 : 0 < L.length := by
  have := (hg.big.mi _ (Au (d := []) hll)).1
  rw [← hL] at this
  cases L with
  | nil => exact absurd rfl this
  | cons _ _ => simp
 have r3 : AT .rem none (.i .i64 (b : Int)) (.i .i64 3) = some (.i .i64 ((b % 3 : Nat) : Int)) := He (l := 3) (by omega)
 have q3 : AT .quo none (.i .i64 (b : Int)) (.i .i64 3) = some (.i .i64 ((b / 3 : Nat) : Int)) := X9 (l := 3) (by omega) (by omega)
 have r4 := He (e := none) (a := b / 3) (l := L.length) hL0
 have r5 := fun h => He (e := none) (a := b / 3) (l := L.length - 1) h
 have hdiv := Nat.div_le_self b 3
 have hmd := Nat.mod_le (b / 3) L.length
 have w4 : IntKind.i64.wrap (1 + ((b / 3 % L.length : Nat) : Int)) = ((1 + b / 3 % L.length : Nat) : Int) := by rw [AC (by omega) (by omega)]; omega
 have hw := fun (Q : VV → Prop) => QW C t ht s hs n ((1 + b / 3 % L.length : Nat) : Int) (Q := Q)
 have bw : b / 3 % L.length ≤ 1000 := by omega
 cases c5 : decide (b % 3 = 0 ∧ 1 < L.length) with
 | false =>
  rw [if_neg (of_decide_eq_false c5)]
  have c5' := of_decide_eq_false c5
  cases hm : Hn t s n ((1 + b / 3 % L.length : Nat) : Int) with
  | none =>
   rw [hm, C7] at hw
   rw [C7]
   cases d1 : decide (((b % 3 : Nat) : Int) = 0) with
   | false =>
    simp only [H5, CG, go_sem, ↓reduceIte, hfr, c0, c0i, r1, g1, hal, hnl, A6 hnl, c4, c2, hloc, hll, gL, r3, q3, r4, w4, d1, hw, NE, List.length_map, A0]
    rfl
   | true =>
    have d1' := of_decide_eq_true d1
    have d2 : decide (1 < (L.length : Int)) = false := decide_eq_false (by omega)
    simp only [H5, CG, go_sem, ↓reduceIte, hfr, c0, c0i, r1, g1, hal, hnl, A6 hnl, c4, c2, hloc, hll, gL, r3, q3, r4, w4, d1, d2, hw, NE, List.length_map, A0]
    rfl
  | some s' =>
   rw [hm, Cn] at hw
   rw [Cn]
   cases d1 : decide (((b % 3 : Nat) : Int) = 0) with
   | false =>
    simp only [H5, CG, go_sem, ↓reduceIte, hfr, c0, c0i, r1, g1, hal, hnl, A6 hnl, c4, c2, hloc, hll, gL, r3, q3, r4, w4, d1, hw, List.length_map, A0]
   | true =>
    have d1' := of_decide_eq_true d1
    have d2 : decide (1 < (L.length : Int)) = false := decide_eq_false (by omega)
    simp only [H5, CG, go_sem, ↓reduceIte, hfr, c0, c0i, r1, g1, hal, hnl, A6 hnl, c4, c2, hloc, hll, gL, r3, q3, r4, w4, d1, d2, hw, List.length_map, A0]
 | true =>
  have c5' := of_decide_eq_true c5
  rw [if_pos c5']
  have d1 : decide (((b % 3 : Nat) : Int) = 0) = true := decide_eq_true (by omega)
  have d2 : decide (1 < (L.length : Int)) = true := decide_eq_true (by omega)
  have w1 : IntKind.i64.wrap ((L.length : Int) - 1) = ((L.length - 1 : Nat) : Int) := by rw [AC (by omega) (by omega)]; omega
  have r5 := He (e := none) (a := b / 3) (l := L.length - 1) (by omega)
  have hmd2 := Nat.mod_le (b / 3) (L.length - 1)
  have w5 : IntKind.i64.wrap (1 + ((b / 3 % (L.length - 1) : Nat) : Int)) = ((1 + b / 3 % (L.length - 1) : Nat) : Int) := by
   generalize b / 3 % (L.length - 1) = z at hmd2 ⊢
   rw [AC (by omega) (by omega)]; omega
  have hjn := fun (Q : VV → Prop) => Ul C t ht s hs hz n ((1 + b / 3 % (L.length - 1) : Nat) : Int) (Q := Q)
  cases hj : Nb t s n ((1 + b / 3 % (L.length - 1) : Nat) : Int) with
  | some s' =>
   rw [hj, Cn] at hjn
   simp only [Cn]
   simp only [H5, CG, go_sem, ↓reduceIte, hfr, c0, c0i, r1, g1, hal, hnl, A6 hnl, c4, c2, hloc, hll, gL, r3, q3, r5, w5, w1, d1, d2, hjn, List.length_map, A0]
  | none =>
   rw [hj, C7] at hjn
   simp only
   cases hm : Hn t s n ((1 + b / 3 % L.length : Nat) : Int) with
   | none =>
    rw [hm, C7] at hw
    rw [C7]
    simp only [H5, CG, go_sem, ↓reduceIte, hfr, c0, c0i, r1, g1, hal, hnl, A6 hnl, c4, c2, hloc, hll, gL, r3, q3, r4, w4, r5, w5, w1, d1, d2, hjn, hw, NE, List.length_map, A0]
    rfl
   | some s' =>
    rw [hm, Cn] at hw
    rw [Cn]
    simp only [H5, CG, go_sem, ↓reduceIte, hfr, c0, c0i, r1, g1, hal, hnl, A6 hnl, c4, c2, hloc, hll, gL, r3, q3, r4, w4, r5, w5, w1, d1, d2, hjn, hw, NE, List.length_map, A0]
end
end Go.AM

namespace Go.AM
open Go Go.Proofs
def grH (s : A9) : VH := [some ⟨A7, 0, 0, false, [[.nl, .nl, .nl]]⟩, some ⟨A7, 0, 0, false, [UQ s]⟩]
section
variable {V : Ao} (C : AL V) {Q : VV → Prop}
include C
set_option maxRecDepth 4000 in
set_option maxHeartbeats 8000000 in
theorem LN (t : A4) (ht : Aj t) (m : List U8) (hl : m.length ≤ 100) (hm : ∀ x ∈ m, x.n < 256) : VP V A7M [vT t, lU m, .b false] Q ↔ Q (Lc (Ci t m (m.length / 2))) := by
 refine Aa ?_
 rw [A8 C.c_z3.1 C.c_z3.2]
 simp only [Ab8, MP, go_sem, ↓reduceIte, R3 C t ht]
 unfold VL
 rw [A0]
 refine AI (M := Nat) (I := fun k F h => 2 * k ≤ m.length ∧ A3.tmp F 1 = lU m ∧ A3.tmp F 2 = .b false ∧ A3.tmp F 3 = .fp (eT t) 0 ∧ A3.tmp F 6 = .p 0 0 0 0 ∧ A3.tmp F 7 = .p 1 0 0 0 ∧ A3.tmp F 8 = .i .i64 ((2 * k : Nat) : Int) ∧ h = grH (Ci t m k)) (μ := fun k => m.length - 2 * k) ?_ 0 _ _ ⟨by omega, ?_, ?_, ?_, ?_, ?_, ?_, ?_⟩
 ·rintro k F h ⟨hk, p1, p2, p3, p6, p7, p8, rfl⟩
  have w1 : IntKind.i64.wrap (((2 * k : Nat) : Int) + 1) = ((2 * k + 1 : Nat) : Int) := by rw [AC (by omega) (by omega)]; omega
  have w2 : IntKind.i64.wrap (((2 * k : Nat) : Int) + 2) = ((2 * (k + 1) : Nat) : Int) := by rw [AC (by omega) (by omega)]; omega
  by_cases c : 2 * k + 1 < m.length
  ·have ci : decide (((2 * k + 1 : Nat) : Int) < (m.length : Int)) = true := decide_eq_true (by omega)
   have c0 : 2 * k < m.length := by omega
   have g0 := AdP c0
   have g1 := AdP c
   have b0 := A66 hm (2 * k)
   have b1 := A66 hm (2 * k + 1)
   have v0 : IntKind.i64.wrap ((PG m (2 * k) : Nat) : Int) = ((PG m (2 * k) : Nat) : Int) := AC (by omega) (by omega)
   have v1 : IntKind.i64.wrap ((PG m (2 * k + 1) : Nat) : Int) = ((PG m (2 * k + 1) : Nat) : Int) := AC (by omega) (by omega)
   have hn := fun (Q : VV → Prop) => Xm C t ht (Ci t m k) (NO ht m k) (by omega) _ _ b0 b1 (Q := Q)
   cases e : HQ t (Ci t m k) (PG m (2 * k)) (PG m (2 * k + 1)) with
   | none =>
    rw [e, C7] at hn
    simp only [A26, MP, go_sem, ↓reduceIte, p1, p2, p3, p6, p7, p8, w1, w2, ci, c0, c, g0, g1, v0, v1, hn, grH, NE, A0]
    exact ⟨k + 1, by omega, by omega, by rw [MB e]; exact ⟨rfl, rfl⟩⟩
   | some s' =>
    rw [e, Cn] at hn
    simp only [A26, MP, go_sem, ↓reduceIte, p1, p2, p3, p6, p7, p8, w1, w2, ci, c0, c, g0, g1, v0, v1, hn, grH, A0]
    exact ⟨k + 1, by omega, by omega, by rw [Mo e]; exact ⟨rfl, rfl⟩⟩
  ·have ci : decide (2 * k + 1 < m.length) = false := decide_eq_false (by omega)
   have e : k = m.length / 2 := by omega
   simp only [A26, MP, go_sem, ↓reduceIte, p1, p2, p3, p6, p7, p8, w1, w2, ci, grH, A0]
   rw [e]
 ·simp only [MP, go_sem, ↓reduceIte]
 ·simp only [MP, go_sem, ↓reduceIte]
 ·simp only [MP, go_sem, ↓reduceIte]
 ·simp only [MP, go_sem, ↓reduceIte]
 ·simp only [MP, go_sem, ↓reduceIte]
 ·simp only [MP, go_sem, ↓reduceIte]
 ·rfl
end
end Go.AM

namespace Go.AM
open Go Go.Proofs
section
variable {V : Ao} (C : AL V) {Q : VV → Prop}
include C
end
end Go.AM

namespace Go.AM
open Go Go.Proofs
section
variable {V : Ao} (C : AL V)
include C
end
end Go.AM

namespace Go.AM
open Go Go.Proofs
theorem DU {α : Type} (p : α → Bool) (x : α) (l : List α) : CL p (x :: l) = if p x = true then 0 else if CL p l < 0 then -1 else CL p l + 1 := by
 unfold CL
 rw [List.findIdx?_cons]
 cases p x with
 | true => rfl
 | false =>
  cases l.findIdx? p with
  | none => rfl
  | some i => simp; omega
theorem A0U {α : Type} (p : α → Bool) (l : List α) : -1 ≤ CL p l := by
 unfold CL
 cases l.findIdx? p with
 | none => simp
 | some i => show (-1 : Int) ≤ (i : Int); omega
theorem Qo {α : Type} {p : α → Bool} {y : α} (hy : p y = false) : ∀ (l : List α) (k : Nat), k ≤ l.length → CL p (l.take k ++ y :: l.drop k) = if CL p l < k then CL p l else CL p l + 1
 | l, 0, _ => by
  have := A0U p l
  rw [List.take_zero, List.nil_append, List.drop_zero, DU, hy]
  simp only [Bool.false_eq_true, if_false]
  split <;> split <;> omega
 | [], k + 1, h => by simp at h
 | x :: l, k + 1, h => by
  have ih := Qo hy l k (by simpa using h)
  have := A0U p l
  rw [List.take_succ_cons, List.drop_succ_cons, List.cons_append, DU, DU, ih]
  split
  ·rw [if_pos (by omega)]
  ·split <;> split <;> split <;> omega
theorem Wh {α : Type} {p : α → Bool} {y d : α} : ∀ (l : List α) (k : Nat), p y = p (l.getD k d) → CL p (l.set k y) = CL p l
 | [], k, _ => rfl
 | x :: l, 0, h => by
  rw [List.set_cons_zero, DU, DU, h]; rfl
 | x :: l, k + 1, h => by
  rw [List.set_cons_succ, DU, DU, Wh l k (by simpa using h)]
theorem UZ {α : Type} {y d : α} : ∀ (l : List α) (k i : Nat), k ≤ l.length → (l.take k ++ y :: l.drop k).getD (if i < k then i else i + 1) d = l.getD i d
 | l, 0, i, _ => by simp
 | [], k + 1, i, h => by simp at h
 | x :: l, k + 1, 0, h => by simp
 | x :: l, k + 1, i + 1, h => by
  have ih := UZ (y := y) (d := d) l k i (by simpa using h)
  rw [List.take_succ_cons, List.drop_succ_cons, List.cons_append]
  by_cases c : i < k
  ·rw [if_pos (by omega)]; rw [if_pos c] at ih; simpa using ih
  ·rw [if_neg (by omega)]; rw [if_neg c] at ih; simpa using ih
theorem Tw {l : List Int} {k : Nat} {x y : Int} : x ∈ BL l k y ↔ x = y ∨ x ∈ l := by
 unfold BL
 have e : x ∈ l ↔ x ∈ l.take k ∨ x ∈ l.drop k := by rw [← List.mem_append, List.take_append_drop]
 rw [e, List.mem_append, List.mem_cons]
 constructor
 ·rintro (h | h | h)
  ·exact .inr (.inl h)
  ·exact .inl h
  ·exact .inr (.inr h)
 ·rintro (h | h | h)
  ·exact .inr (.inl h)
  ·exact .inl h
  ·exact .inr (.inr h)
theorem A0o {l : List Int} {k : Nat} {x y : Int} (h : x ≠ y) : BB (BL l k y) x = BB l x := by
 cases c : BB l x with
 | true => exact Ag.2 (Tw.2 (.inr (Ag.1 c)))
 | false =>
  rw [Bool.eq_false_iff] at c ⊢
  intro h2
  rcases Tw.1 (Ag.1 h2) with e | e
  ·exact h e
  ·exact c (Ag.2 e)
theorem Abz {x f : List Int} {k : Nat} {n y w : Int} (hk : k ≤ x.length) (hf : k ≤ f.length) (h : n ∈ x) (hn : n ≠ y) : Jk (BL x k y) (BL f k w) n = Jk x f n := by
 unfold Jk
 rw [A0o hn, if_pos (Ag.2 h), if_pos (Ag.2 h)]
 obtain ⟨i, e, hi, h1, h2⟩ := EN (Ag.2 h)
 have e2 : Hz (BL x k y) n = if Hz x n < k then Hz x n else Hz x n + 1 := Qo (p := fun z => decide (n = z)) (decide_eq_false hn) x k hk
 rw [e2, e, Int.toNat_natCast]
 have := UZ (y := w) (d := 0) f k i hf
 unfold BL
 rw [← this]
 congr 1
 by_cases c : i < k
 ·rw [if_pos c, if_pos (by omega)]; omega
 ·rw [if_neg c, if_neg (by omega)]; omega
/-- A structure with more in it, in which all that was there stands as it stood. -/
structure Ext (t : A4) (s s' : A9) : Prop where
 has : ∀ n, n ∈ s.has → n ∈ s'.has
 on : ∀ n, n ∈ s.has → Jk s'.has s'.jf n = Jk s.has s.jf n
 place : ∀ (loc v w : Int), v ∈ s.has → w ∈ s.has → (Ep s loc v < Ep s loc w ↔ Ep s' loc v < Ep s' loc w)
theorem LV {t : A4} {s s' : A9} {n kind w : Int} (e : D7 t s n kind w = some s') : Ext t s s' ∧ Bq t s = true ∧ n ∉ s.has := by
 unfold D7 at e
 split at e
 ·rename_i hok
  cases e
  have hk := E5 s.has n
  simp only [C0, Bool.and_eq_true, Bool.not_eq_true'] at hok
  have hf := hok.1.1.1.1
  have hjl : s.jf.length = s.has.length := by simp only [Bq, Bool.and_eq_true, decide_eq_true_eq] at hf; exact hf.1.1.1.1.2
  have hn : n ∉ s.has := fun h => by rw [Ag.2 h] at hok; exact absurd hok.1.2 (by simp)
  exact ⟨⟨fun x hx => Tw.2 (.inr hx), fun x hx => Abz hk (by omega) hx (fun c => hn (c ▸ hx)), fun _ _ _ _ _ => Iff.rfl⟩, hf, hn⟩
 ·cases e
theorem Ext.trans {t : A4} {a b c : A9} (h : Ext t a b) (k : Ext t b c) : Ext t a c :=
 ⟨fun n hn => k.has n (h.has n hn), fun n hn => (k.on n (h.has n hn)).trans (h.on n hn), fun loc v w hv hw => (h.place loc v w hv hw).trans (k.place loc v w (h.has v hv) (h.has w hw))⟩
theorem RJ {s : A9} {r : Nat} {L : List (List Int)} {g : Int → Int} (hg : ∀ a b, a < b ↔ g a < g b) {ok : Int → Prop} (h : ∀ v, ok v → CL (fun c => BB c v) L = g (CL (fun c => BB c v) (s.mo.getD r []))) (loc v w : Int) (hv : ok v) (hw : ok w) :
  Ep s loc v < Ep s loc w ↔ Ep { s with mo := s.mo.set r L } loc v < Ep { s with mo := s.mo.set r L } loc w := by
 unfold Ep
 rw [List.length_set]
 by_cases c : loc < 0 ∨ (s.mo.length : Int) ≤ loc
 ·simp only [if_pos c]
 ·simp only [if_neg c]
  by_cases c2 : loc.toNat = r
  ·have e : (s.mo.set r L).getD loc.toNat [] = L := by rw [List.getD_eq_getElem?_getD, List.getElem?_set, if_pos c2.symm, if_pos (by omega)]; rfl
   rw [e, h v hv, h w hw, c2]
   exact hg _ _
  ·have e : (s.mo.set r L).getD loc.toNat [] = s.mo.getD loc.toNat [] := by rw [List.getD_eq_getElem?_getD, List.getElem?_set, if_neg (Ne.symm c2), ← List.getD_eq_getElem?_getD]
   rw [e]
theorem RL {t : A4} {s s' : A9} {n w : Int} (e : Hn t s n w = some s') : Ext t s s' ∧ Bq t s = true := by
 unfold Hn at e
 split at e
 ·rename_i x hx
  obtain ⟨h1, h2, h3⟩ := LV hx
  split at e
  ·cases e
  ·rename_i hw
   cases e
   refine ⟨⟨h1.has, h1.on, fun loc v u hv hu => (h1.place loc v u hv hu).trans ?_⟩, h2⟩
   refine RJ (ok := fun v => v ∈ s.has) (g := fun i => if i < (w.toNat : Int) then i else i + 1) (fun a b => by split <;> split <;> omega) (fun v hv => ?_) loc v u hv hu
   exact Qo (p := fun c => BB c v) (by
    rw [Bool.eq_false_iff]
    intro h
    exact h3 (by rw [List.mem_singleton.1 (Ag.1 h)] at hv; exact hv)) _ _ (by omega)
 ·cases e
theorem A6U {t : A4} {s s' : A9} {n w : Int} (e : Nb t s n w = some s') : Ext t s s' ∧ Bq t s = true := by
 unfold Nb at e
 split at e
 ·rename_i x hx
  obtain ⟨h1, h2, h3⟩ := LV hx
  simp only at e
  split at e
  ·cases e
  ·split at e
   ·cases e
    refine ⟨⟨h1.has, h1.on, fun loc v u hv hu => (h1.place loc v u hv hu).trans ?_⟩, h2⟩
    refine RJ (ok := fun v => v ∈ s.has) (g := fun i => i) (fun a b => Iff.rfl) (fun v hv => ?_) loc v u hv hu
    exact Wh (d := []) _ _ (A0o fun c => h3 (c ▸ hv))
   ·cases e
 ·cases e
theorem A48 {t : A4} {s s' : A9} {n w : Int} (e : Nf t s n w = some s') : Ext t s s' ∧ Bq t s = true := by
 unfold Nf at e
 split at e
 ·rename_i x hx
  obtain ⟨h1, h2, _⟩ := LV hx
  split at e
  ·cases e; exact ⟨h1, h2⟩
  ·cases e
 ·cases e
theorem A4S {t : A4} {s s' : A9} {a b : Nat} (e : HQ t s a b = some s') : Ext t s s' ∧ Bq t s = true := by
 unfold HQ at e
 simp only at e
 split at e
 ·cases e
 ·split at e
  ·obtain ⟨h1, h2, _⟩ := LV e; exact ⟨h1, h2⟩
  ·split at e
   ·split at e
    ·cases e
    ·exact A48 e
   ·split at e
    ·split at e
     ·rename_i s2 hj
      cases e; exact A6U hj
     ·exact RL e
    ·exact RL e
theorem X6.mono {p q : Nat → Nat → Bool} {N a b : Nat} (i : ∀ a b, p a b = true → q a b = true) (h : X6 p N a b) : X6 q N a b := by
 induction h with
 | one hb h => exact .one hb (i _ _ h)
 | more _ hc h ih => exact .more ih hc (i _ _ h)
section
variable {t : A4} (ht : Aj t) {s s' : A9} (E : Ext t s s') (hF : DR t s.has s.jf) (hF' : DR t s'.has s'.jf) (up : ∀ n, n ∈ s.has → (t.at n.toNat).up < 0 ∨ (t.at n.toNat).up ∈ s.has)
include ht E hF hF' up
theorem AbC {w : Int} (hw : w ∈ s.has) : ahF t s'.has s'.jf w = ahF t s.has s.jf w := by
 unfold ahF
 rcases up w hw with h | h
 ·have a : BB s.has (t.at w.toNat).up = false := Bool.eq_false_iff.2 fun c => by
   obtain ⟨m, e, _⟩ := Aq (hF.node _ (Ag.1 c)); omega
  have b : BB s'.has (t.at w.toNat).up = false := Bool.eq_false_iff.2 fun c => by
   obtain ⟨m, e, _⟩ := Aq (hF'.node _ (Ag.1 c)); omega
  rw [a, b]; simp
 ·rw [Ag.2 h, Ag.2 (E.has _ h), E.on _ h]
theorem A7H {w : Int} {j : Nat} (h : (Lu t s.has w).getLsbD j = true) : (Lu t s'.has w).getLsbD j = true := by
 rw [Lu, AF, Bool.and_eq_true] at h ⊢
 refine ⟨?_, h.2⟩
 have h := h.1
 simp only [A6F, Bool.or_eq_true, Bool.and_eq_true, Ag] at h ⊢
 rcases h with h | h
 ·exact .inl h
 ·exact .inr ⟨⟨⟨E.has _ h.1.1.1, h.1.1.2⟩, h.1.2⟩, h.2⟩
theorem VB {j : Nat} : ∀ (k k' : Nat) (w : Int), k ≤ k' → (w ∈ s.has ∨ w = -1) → (Ll t s.has s.jf k w).getLsbD j = true → (Ll t s'.has s'.jf k' w).getLsbD j = true
 | 0, _, w, _, _, h => by simp [Ll] at h
 | k + 1, 0, w, hk, _, _ => by omega
 | k + 1, k' + 1, w, hk, hw, h => by
  rw [Ll] at h ⊢
  by_cases c : LJ t w = true
  ·rw [if_pos c] at h; simp at h
  ·rw [if_neg c] at h ⊢
   rcases hw with hw | rfl
   ·rw [BitVec.getLsbD_or, Bool.or_eq_true] at h ⊢
    rw [AbC ht E hF hF' up hw]
    rcases h with h | h
    ·exact .inl (A7H ht E hF hF' up h)
    ·refine .inr (VB k k' _ (by omega) ?_ h)
     rcases A0m ht hF hw with e | e
     ·exact .inr e
     ·exact .inl e.1
   ·exact absurd rfl c
theorem A8Y {r : Int} {b : Nat} (h : HK t s.has r b = true) : HK t s'.has r b = true := by
 simp only [HK, Bool.or_eq_true, Bool.and_eq_true, Ag] at h ⊢
 rcases h with h | h
 ·exact .inl h
 ·exact .inr ⟨⟨⟨E.has _ h.1.1.1, h.1.1.2⟩, h.1.2⟩, h.2⟩
theorem Acx (hl : s.has.length ≤ s'.has.length) (a b : Nat) (h : hbB t s.has s.jf a b = true) : hbB t s'.has s'.jf a b = true := by
 simp only [hbB, Bool.or_eq_true, Bool.and_eq_true, Ag] at h ⊢
 rcases h with h | h
 ·exact .inl ⟨⟨E.has _ h.1.1, E.has _ h.1.2⟩, h.2⟩
 ·refine .inr ?_
  simp only [swB, List.any_eq_true, Bool.and_eq_true] at h ⊢
  obtain ⟨r, hr, ⟨hs, hh⟩, he⟩ := h
  have hk : (t.at r.toNat).kind = 2 := by simp only [Nr, Bool.and_eq_true, decide_eq_true_eq] at hs; exact hs.1
  have ho := (hF.read r hr hk).1
  refine ⟨r, E.has r hr, ⟨?_, ?_⟩, A8Y ht E hF hF' up he⟩
  ·unfold Nr at hs ⊢; rw [E.on r hr]; exact hs
  ·rw [E.on r hr]
   rw [B7] at hh ⊢
   exact VB ht E hF hF' up _ _ _ (by omega) (.inl ho) hh
end
theorem A7O {t : A4} (ht : Aj t) {s s' : A9} (E : Ext t s s') (hf : Bq t s = true) (h : QG t s' = true) : QG t s = true := by
 have h64 := ht.n64
 rw [QG, Bool.and_eq_true] at h
 obtain ⟨hf', hp'⟩ := h
 have hF := LX (Mc hf)
 have hF' := LX (Mc hf')
 have hlen : s.has.length = s.jf.length := hF.len
 have hlen' : s'.has.length = s'.jf.length := hF'.len
 have up : ∀ n, n ∈ s.has → (t.at n.toNat).up < 0 ∨ (t.at n.toNat).up ∈ s.has := by
  intro n hn
  obtain ⟨i, hi, rfl⟩ := List.getElem_of_mem hn
  have hn := hf
  simp only [Bq, BT, Bool.and_eq_true, Av] at hn
  have := hn.1.1.1.1.1.1 i hi
  simp only [BR, Bool.and_eq_true, Bool.or_eq_true, decide_eq_true_eq, Ag] at this
  have e : s.has.getD i 0 = s.has[i] := by rw [List.getD_eq_getElem?_getD, List.getElem?_eq_getElem hi]; rfl
  rw [e] at this
  exact this.2
 rw [QG, hf, Bool.true_and, List.all_eq_true]
 intro x hx
 obtain ⟨a, b, ha, rfl, hp⟩ := (M7 h64 _ _).1 hx
 obtain ⟨ma, mb⟩ := Aad ht hF hp
 have hq := X6.mono (Acx ht E hF hF' up (Ln _ _ hF.nd E.has)) hp
 have hk := List.all_eq_true.1 hp' _ ((M7 h64 _ _).2 ⟨a, b, ha, rfl, hq⟩)
 have src : ∀ n : Nat, (n : Int) ∈ s.has → (if (t.at n).kind = 2 then jfF s' n else (n : Int)) = (if (t.at n).kind = 2 then jfF s n else (n : Int)) ∧ ((if (t.at n).kind = 2 then jfF s n else (n : Int)) ∈ s.has) := by
  intro n hn
  by_cases c : (t.at n).kind = 2
  ·rw [if_pos c, if_pos c, A9x hlen, A9x hlen', E.on _ hn]
   exact ⟨rfl, (hF.read _ hn c).1⟩
  ·rw [if_neg c, if_neg c]; exact ⟨rfl, hn⟩
 obtain ⟨ea, sa⟩ := src a ma
 obtain ⟨eb, sb⟩ := src b mb
 simp only [A4s, plN, Int.toNat_natCast] at hk ⊢
 rw [ea, eb] at hk
 simp only [Jf, Bool.or_eq_true] at hk ⊢
 rcases hk with hk | hk
 ·exact .inl hk
 ·by_cases cl : (t.at a).loc = (t.at b).loc
  ·refine .inr ?_
   rw [cl] at hk ⊢
   have p1 := E.place (t.at b).loc _ _ sa sb
   have p2 := E.place (t.at b).loc _ _ sb sa
   by_cases c : (t.at b).kind = 2
   ·rw [if_pos c] at hk ⊢
    have := of_decide_eq_true hk
    exact decide_eq_true (by omega)
   ·rw [if_neg c] at hk ⊢
    have := of_decide_eq_true hk
    exact decide_eq_true (by omega)
  ·exact .inl (.inr (by rw [decide_eq_false cl]; rfl))
theorem Rr {t : A4} (ht : Aj t) (m : List U8) (k : Nat) : ∀ j, QG t (Ci t m (k + j)) = true → QG t (Ci t m k) = true ∧ ∀ n, n ∈ (Ci t m k).has → n ∈ (Ci t m (k + j)).has
 | 0, h => ⟨h, fun n hn => hn⟩
 | j + 1, h => by
  have key : QG t (Ci t m (k + j)) = true ∧ ∀ n, n ∈ (Ci t m (k + j)).has → n ∈ (Ci t m (k + (j + 1))).has := by
   rw [← Nat.add_assoc] at h ⊢
   cases e : HQ t (Ci t m (k + j)) (PG m (2 * (k + j))) (PG m (2 * (k + j) + 1)) with
   | none => rw [MB e] at h ⊢; exact ⟨h, fun n hn => hn⟩
   | some s' =>
    rw [Mo e] at h ⊢
    obtain ⟨E, hf⟩ := A4S e
    exact ⟨A7O ht E hf h, E.has⟩
  obtain ⟨h1, h2⟩ := Rr ht m k j key.1
  exact ⟨h1, fun n hn => key.2 n (h2 n hn)⟩
theorem WK {m : List U8} {n i : Nat} (h : i < n) : PG (m.take n) i = PG m i := by
 unfold PG
 rw [List.getD_eq_getElem?_getD, List.getD_eq_getElem?_getD, List.getElem?_take, if_pos h]
theorem Rq (t : A4) (m : List U8) (n : Nat) : ∀ k, 2 * k ≤ n → Ci t (m.take n) k = Ci t m k
 | 0, _ => rfl
 | k + 1, h => by rw [Ci, Ci, Rq t m n k (by omega), WK (by omega), WK (by omega)]
theorem A7Q {l l' : List Int} (h : ∀ x, x ∈ l → x ∈ l') : D6 l ||| D6 l' = D6 l' := by
 apply BZ
 intro j hj
 have e : ∀ l : List Int, (D6 l).getLsbD j = BB l (j : Int) := fun l => by rw [← B7, U5 l (by omega) (by omega)]
 rw [BitVec.getLsbD_or, e, e]
 cases c : BB l (j : Int) with
 | false => rw [Bool.false_or]
 | true => rw [Ag.2 (h _ (Ag.1 c))]; rfl
end Go.AM

namespace Go.AM
open Go Go.Proofs
section
variable {V : Ao} (C : AL V)
include C
set_option maxRecDepth 4000 in
set_option maxHeartbeats 8000000 in
theorem law_CoheLess (hb : ∀ Q : VV → Prop, VP V A2S [] Q ↔ Q (.b true)) (l m : List U8) (hl : ∀ x ∈ l, x.n < 256) (hm : ∀ x ∈ m, x.n < 256) :
  VP V A8g [lU l, lU m] fun x => x = .b true := by
 rw [A8 C.c_z0.1 C.c_z0.2]
 by_cases c1 : (30 : Int) < l.length
 ·simp only [Zn, VS, go_sem, ↓reduceIte, hb, c1]
 by_cases c2 : (40 : Int) < m.length
 ·simp only [Zn, VS, go_sem, ↓reduceIte, hb, c1, c2]
 obtain ⟨_, ⟨t, ok, rfl, ht⟩, qT⟩ := Dd (Tc C l ⟨by omega, hl⟩)
 cases ok with
 | false => simp only [Zn, VS, go_sem, ↓reduceIte, hb, c1, c2, qT]
 | true =>
 have ht := (ht rfl).1
 have q4 : AT .quo none (.i .i64 (m.length : Int)) (.i .i64 4) = some (.i .i64 ((m.length / 4 : Nat) : Int)) := X9 (l := 4) (by omega) (by omega)
 obtain ⟨n, hn⟩ : ∃ n, n = m.length / 4 * 2 := ⟨_, rfl⟩
 have w2 : IntKind.i64.wrap (((m.length / 4 : Nat) : Int) * 2) = (n : Int) := by rw [AC (by omega) (by omega)]; omega
 have hnl : n ≤ m.length := by omega
 have hm' : ∀ x ∈ m.take n, x.n < 256 := fun x hx => hm x (List.mem_of_mem_take hx)
 have hlt : (m.take n).length = n := by rw [List.length_take]; omega
 have hg := NO ht m (m.length / 2)
 have hg2 := NO ht (m.take n) (n / 2)
 have qG := fun (Q : VV → Prop) => LN C t ht m (by omega) hm (Q := Q)
 have qG2 := fun (Q : VV → Prop) => LN C t ht (m.take n) (by omega) hm' (Q := Q)
 rw [hlt] at qG2
 rw [Rq t m n (n / 2) (by omega)] at qG2 hg2
 have hz := hg.sz ht (by omega)
 have hz2 := hg2.sz ht (by omega)
 have hle := Rr ht m (n / 2) (m.length / 2 - n / 2)
 rw [show n / 2 + (m.length / 2 - n / 2) = m.length / 2 by omega] at hle
 cases hc : QG t (Ci t m (m.length / 2)) with
 | false => simp only [Zn, VS, go_sem, ↓reduceIte, hb, c1, c2, qT, q4, w2, qG, HD C t ht _ hz, hc]
 | true =>
  obtain ⟨h1, h2⟩ := hle hc
  have ho := decide_eq_true (A7Q h2)
  simp only [Zn, VS, go_sem, ↓reduceIte, hb, c1, c2, qT, q4, w2, qG, qG2, hnl, HD C t ht _ hz, HD C t ht _ hz2, hc, h1, Nn C _ hz, Nn C _ hz2, Kw C, ho]
end
end Go.AM
