/-
  Own work, part of the proof of CoheAll: what functions compute (fifth part), and the law itself.
-/
import Derived.Test.YtpcpldaangchaaaGreatDoorKD
set_option maxRecDepth 4000
set_option linter.unusedVariables false
set_option linter.unusedSimpArgs false
set_option linter.unusedSectionVars false
set_option linter.unnecessarySimpa false
namespace Go.AM
open Go Go.Proofs
section
variable {V : At} {m : Nat → Nat} {Q : Ex → A3 → VH → Prop}
/-- A loop whose rounds leave behind what they laid. -/
theorem Tw {M : Type} (I : M → A3 → VH → Prop) (μ : M → Nat) {c : A1}
  (k : ∀ x F h, I x F h → Vc V m c F h (fun e F' h' => match e with | .norm => ¬ LG h.length h h' ∧ ∃ x', μ x' < μ x ∧ I x' F' h' | e => Q e F' h')) : ∀ x F h, I x F h → Vc V m (.loop c) F h Q := by
 have key : ∀ j x F h, μ x ≤ j → I x F h → Vc V m (.loop c) F h Q := by
  intro j
  induction j with
  | zero =>
   intro x F h hj hi
   rw [Pl]
   refine (k x F h hi).mono fun e F' h' hq => ?_
   cases e with
   | norm => obtain ⟨_, x', h1, _⟩ := hq; omega
   | _ => exact hq
  | succ j ih =>
   intro x F h hj hi
   rw [Pl]
   refine (k x F h hi).mono fun e F' h' hq => ?_
   cases e with
   | norm =>
    obtain ⟨h0, x', h1, h2⟩ := hq
    unfold gcF gcH
    rw [if_neg h0, if_neg h0]
    exact ih x' _ _ (by omega) h2
   | _ => exact hq
 exact fun x F h hi => key _ x F h (Nat.le_refl _) hi
end
abbrev i7 (n : Nat) : Nat := n + 1 + 1 + 1 + 1 + 1 + 1 + 1
/-- What a copy lays for each location. -/
def H8 (mo : List (List (List Int))) : Nat → VH
 | 0 => []
 | k + 1 => H8 mo k ++ [some (AP CR 1 ((mo.getD k []).map GZ)), some ⟨B9, 1, 0, false, [[.sl (i7 (2 * k)) (mo.getD k []).length 0 (mo.getD k []).length]]⟩]
theorem Cj (mo : List (List (List Int))) : ∀ k, (H8 mo k).length = 2 * k
 | 0 => rfl
 | k + 1 => by rw [H8, List.length_append, Cj mo k]; simp; omega
def DK (mo : List (List (List Int))) (k : Nat) : List (List VV) := (List.range k).map fun i => [.sl (i7 (2 * i)) (mo.getD i []).length 0 (mo.getD i []).length]
theorem Pr (mo : List (List (List Int))) (k : Nat) : (DK mo k).length = k := by simp [DK]
theorem A6J (mo : List (List (List Int))) (k : Nat) : DK mo (k + 1) = DK mo k ++ [[.sl (i7 (2 * k)) (mo.getD k []).length 0 (mo.getD k []).length]] := by
 unfold DK
 rw [List.range_succ, List.map_append]; rfl
theorem Ml (mo : List (List (List Int))) (k : Nat) (Y : VH) : (H8 mo k ++ Y)[2 * k]? = Y[0]? ∧ (H8 mo k ++ Y)[2 * k + 1]? = Y[1]? ∧ (H8 mo k ++ Y)[2 * k + 1 + 1]? = Y[2]? := by
 have := Cj mo k
 refine ⟨?_, ?_, ?_⟩ <;> rw [List.getElem?_append_right (by omega)] <;> congr 1 <;> omega
theorem TL (mo : List (List (List Int))) (k : Nat) (Y : VH) (z : Option VO) : (H8 mo k ++ Y).set (2 * k) z = H8 mo k ++ Y.set 0 z ∧ (H8 mo k ++ Y).set (2 * k + 1) z = H8 mo k ++ Y.set 1 z := by
 have := Cj mo k
 refine ⟨?_, ?_⟩
 ·have e := List.set_append_right (s := (H8 mo k : List (Option VO))) (t := Y) (2 * k) z (by omega)
  rw [this, Nat.sub_self] at e
  exact e
 ·have e := List.set_append_right (s := (H8 mo k : List (Option VO))) (t := Y) (2 * k + 1) z (by omega)
  rw [this, Nat.add_sub_cancel_left] at e
  exact e
theorem A7O (mo : List (List (List Int))) (k : Nat) (a b : Option VO) : List.take (2 * k + 1) (H8 mo k ++ [a, b]) = H8 mo k ++ [a] := by
 have e : (H8 mo k ++ [a, b]) = (H8 mo k ++ [a]) ++ [b] := by simp
 rw [e]
 have hl : (H8 mo k ++ [a]).length = 2 * k + 1 := by rw [List.length_append, Cj]; rfl
 rw [← hl]
 exact List.take_left
/-- The heap while a shape is copied, behind two objects. -/
def cpG (x0 x1 : Option VO) (s : Ac) (k : Nat) : VH := x0 :: x1 :: some ⟨A7, 0, 0, false, [[.nl, .nl, .nl]]⟩ :: some (P6 AU 1 (s.has.map eI)) :: some (P6 AU 1 (s.jf.map eI)) ::
 some ⟨A7, 0, 0, false, [[.sl 3 (EK s.has.length) 0 s.has.length, .sl 4 (EK s.jf.length) 0 s.jf.length, .sl 6 (DK s.mo k).length 0 (DK s.mo k).length]]⟩ :: some (AP B9 1 (DK s.mo k)) :: H8 s.mo k
section
variable {V : At} (C : AS V)
include C
set_option maxHeartbeats 8000000 in
theorem Mm (s : Ac) (hs : Ja s) (x0 x1 : Option VO) {Q : VV → VH → Prop} : LL V NX [JO s] [x0, x1] Q ↔
  Q (.ag [.sl 3 (EK s.has.length) 0 s.has.length, .sl 4 (EK s.jf.length) 0 s.jf.length, .sl 6 (DK s.mo s.mo.length).length 0 (DK s.mo s.mo.length).length])
   (x0 :: x1 :: some ⟨A7, 0, 0, false, [[.sl 3 (EK s.has.length) 0 s.has.length, .sl 4 (EK s.jf.length) 0 s.jf.length, .sl 6 (DK s.mo s.mo.length).length 0 (DK s.mo s.mo.length).length]]⟩ :: (cpG x0 x1 s s.mo.length).drop 3) := by
 refine MN ?_
 rw [EP C.h_z25]
 have h1 := hs.has
 have h2 := hs.jf
 have h3 := hs.mo
 have b1 : s.has.length * 8 ≤ A6 := by unfold A6; omega
 have b2 : s.jf.length * 8 ≤ A6 := by unfold A6; omega
 simp only [Sf, DF, go_sem, ↓reduceIte, b1, b2]
 unfold VL
 rw [A0]
 refine Tw (M := Nat) (I := fun k F h => k ≤ s.mo.length ∧ A3.tmp F 1 = .fp (Qa s) 0 ∧ A3.tmp F 2 = .p 2 0 0 0 ∧ A3.tmp F 3 = .p 5 0 0 0 ∧ A3.tmp F 4 = .i .i64 k ∧ h = cpG x0 x1 s k) (μ := fun k => s.mo.length - k) ?_ 0 _ _ ⟨Nat.zero_le _, ?_, ?_, ?_, ?_, ?_⟩
 ·rintro k F h ⟨hkl, p1, p2, p3, p4, rfl⟩
  by_cases c : k < s.mo.length
  ·have hm := hs.mi' k
   have hw : IntKind.i64.wrap ((k : Int) + 1) = ((k + 1 : Nat) : Int) := by rw [AE (by omega) (by omega)]; omega
   simp only [YF, DF, go_sem, ↓reduceIte, p1, p2, p3, p4, c, Cc c, A0, cpG]
   have hT := Cj s.mo k
   have hg := fun Y => Ml s.mo k Y
   have hst := fun Y z => TL s.mo k Y z
   refine Ad (by decide) (s.mo.getD k []).length (by omega) (I := fun j F h => A3.tmp F 4 = .i .i64 k ∧ A3.tmp F 1 = .fp (Qa s) 0 ∧ A3.tmp F 2 = .p 2 0 0 0 ∧ A3.tmp F 3 = .p 5 0 0 0 ∧ ∃ K, K = (s.mo.getD k []).take j ∧ A3.tmp F 5 = .sl (i7 (2 * k)) K.length 0 K.length ∧ h = cpG x0 x1 s k ++ [some (AP CR 1 (K.map GZ))]) ?_ ?_ ?_ 0 _ _ (Nat.zero_le _) ?_ ?_
   ·rintro j F h hj q6 ⟨q4, q1, q2, q3, K, hK, q5, rfl⟩
    simp only [DF, go_sem, ↓reduceIte, q6, q4, q1, q2, q3, q5, Cc c]
    exact ⟨K, hK, rfl, rfl⟩
   ·rintro j F h hj q6 ⟨q4, q1, q2, q3, K, hK, q5, rfl⟩
    have htk : (s.mo.getD k []).take (j + 1) = K ++ [(s.mo.getD k []).getD j []] := by
     rw [List.take_succ_eq_append_getElem hj, hK, List.getD_eq_getElem?_getD (l := s.mo.getD k []), List.getElem?_eq_getElem hj]; rfl
    have hc := hs.mc' k j
    have hl : K.length = j := by rw [hK, List.length_take]; omega
    have b3 : ((s.mo.getD k []).getD j []).length * 8 ≤ A6 := by unfold A6; omega
    have b4 : (K.length + 1) * 24 ≤ A6 := by unfold A6; omega
    simp only [DF, go_sem, ↓reduceIte, q6, q4, q1, q2, q3, q5, Cc c, Gt hj, c, hj, b3, b4, cpG, A5q, A0, List.length_append, List.length_map, hT, (hg _).1, (hg _).2.1, (hg _).2.2, (hst _ _).1, (hst _ _).2]
    exact ⟨K ++ [(s.mo.getD k []).getD j []], htk.symm, by simp, by rw [A7O]⟩
   ·rintro F h ⟨q4, q1, q2, q3, K, hK, q5, rfl⟩
    rw [List.take_length] at hK
    subst hK
    have hr := Pr s.mo k
    have b4 : ((DK s.mo k).length + 1) * 24 ≤ A6 := by unfold A6; omega
    simp only [DF, go_sem, ↓reduceIte, q4, q1, q2, q3, q5, b4, cpG, A2L, List.length_append, List.length_map, hT, (hg _).1, (hg _).2.1, (hg _).2.2, (hst _ _).1, (hst _ _).2, hw]
    refine ⟨?_, k + 1, by omega, by omega, rfl, ?_⟩
    ·rintro (h | h)
     ·have := congrArg (fun o => o.rows.length) h
      simp only [A3S, List.length_append] at this
      simp at this
     ·rw [List.all_append, Bool.and_eq_true] at h
      have := h.2
      simp [Ct, bel] at this
    ·rw [A6J, H8, List.length_append]
     rfl
   ·simp only [DF, go_sem, ↓reduceIte]
   ·simp only [DF, go_sem, ↓reduceIte, p4, p1, p2, p3, cpG, hT]
    exact ⟨[], rfl, rfl, rfl⟩
  ·have e : k = s.mo.length := by omega
   subst e
   simp only [YF, DF, go_sem, ↓reduceIte, p1, p2, p3, p4, Nat.lt_irrefl, cpG]
 ·simp only [DF, go_sem, ↓reduceIte]
 ·simp only [DF, go_sem, ↓reduceIte]
 ·simp only [DF, go_sem, ↓reduceIte]
 ·simp only [DF, go_sem, ↓reduceIte]
 ·rfl
end
end Go.AM

namespace Go.AM
open Go Go.Proofs
/-- The heap when a copy has been made for one node more. -/
def moG (x0 : Option VO) (s : Ac) : VH := x0 :: some ⟨A7, 0, 0, false, [[.nl, .nl, .nl]]⟩ ::
 some ⟨A7, 0, 0, false, [[.sl 3 (EK s.has.length) 0 s.has.length, .sl 4 (EK s.jf.length) 0 s.jf.length, .sl 6 (DK s.mo s.mo.length).length 0 (DK s.mo s.mo.length).length]]⟩ :: some (P6 AU 1 (s.has.map eI)) :: some (P6 AU 1 (s.jf.map eI)) ::
 some ⟨A7, 0, 0, false, [[.sl 3 (EK s.has.length) 0 s.has.length, .sl 4 (EK s.jf.length) 0 s.jf.length, .sl 6 (DK s.mo s.mo.length).length 0 (DK s.mo s.mo.length).length]]⟩ :: some (AP B9 1 (DK s.mo s.mo.length)) ::
 (H8 s.mo s.mo.length ++ [some ⟨A7, 0, 0, false, [[.sl 3 (EK s.has.length) 0 s.has.length, .sl 4 (EK s.jf.length) 0 s.jf.length, .sl 6 (DK s.mo s.mo.length).length 0 (DK s.mo s.mo.length).length]]⟩])
abbrev moV (s S : Ac) (v1 v2 : Nat) : VV := .ag [.sl (i7 (2 * s.mo.length) + 1) v1 0 S.has.length, .sl (i7 (2 * s.mo.length) + 1 + 1) v2 0 S.jf.length, .sl 6 (DK s.mo s.mo.length).length 0 (DK s.mo s.mo.length).length]
abbrev Rt (s S : Ac) (v1 v2 : Nat) : List VV := [.sl (i7 (2 * s.mo.length) + 1) v1 0 S.has.length, .sl (i7 (2 * s.mo.length) + 1 + 1) v2 0 S.jf.length, .sl 6 (DK s.mo s.mo.length).length 0 (DK s.mo s.mo.length).length]
/-- The heap when one node more has come. -/
def moE (x0 : Option VO) (s S : Ac) (v1 v2 : Nat) : VH := x0 :: some ⟨A7, 0, 0, false, [Rt s S v1 v2]⟩ ::
 some ⟨A7, 0, 0, false, [[.sl 3 (EK s.has.length) 0 s.has.length, .sl 4 (EK s.jf.length) 0 s.jf.length, .sl 6 (DK s.mo s.mo.length).length 0 (DK s.mo s.mo.length).length]]⟩ :: some (P6 AU 1 (s.has.map eI)) :: some (P6 AU 1 (s.jf.map eI)) ::
 some ⟨A7, 0, 0, false, [[.sl 3 (EK s.has.length) 0 s.has.length, .sl 4 (EK s.jf.length) 0 s.jf.length, .sl 6 (DK s.mo s.mo.length).length 0 (DK s.mo s.mo.length).length]]⟩ :: some (AP B9 1 (DK s.mo s.mo.length)) ::
 (H8 s.mo s.mo.length ++ [some ⟨A7, 0, 0, false, [Rt s S v1 v2]⟩, some ⟨AU, 1, v1, false, S.has.map eI⟩, some ⟨AU, 1, v2, false, S.jf.map eI⟩])
theorem A9n (x0 : Option VO) (s : Ac) : (moG x0 s).length = 2 * s.mo.length + 8 := by
 have hT := Cj s.mo s.mo.length
 simp [moG, hT]
section
variable {V : At} (C : AS V)
include C
set_option maxHeartbeats 16000000 in
theorem Tj (t : A5) (ht : Aj t) (s : Ac) (hs : Ja s) {m : Nat} (hm : m < t.nodes.length) (kind w : Int) (hok : Cd t s m kind = true) (x0 : Option VO) : LL V GL [vT t, JO s, .i .i64 m, .i .i64 kind, .i .i64 w] [x0] fun r h' => ∃ v1 v2, r = .tu [moV s (Bf s m w) v1 v2, .b true] ∧ h' = moE x0 s (Bf s m w) v1 v2 := by
 rw [EP C.h_z108]
 have hfm := fun (Q : VV → Prop) => C2 C t ht s hs (Q := Q)
 have hle := hs.has
 have h1 : C3 t (m : Int) = true := Da hm
 simp only [Cd, Bool.and_eq_true, Bool.not_eq_true', Int.toNat_natCast] at hok
 obtain ⟨⟨⟨⟨hf, _⟩, h2⟩, h3⟩, h4⟩ := hok
 have w1 := DV s.has (m : Int)
 have w2 := BT s.has (t.at m).up
 rw [h3] at w1
 rw [h4] at w2
 have hcp := fun (Q : VV → VH → Prop) => Mm C s hs x0 (some ⟨A7, 0, 0, false, [[.nl, .nl, .nl]]⟩) (Q := Q)
 have hT := Cj s.mo s.mo.length
 have hr := Pr s.mo s.mo.length
 have hg := fun Y => Ml s.mo s.mo.length Y
 have hst := fun Y z => TL s.mo s.mo.length Y z
 have hlt0 : decide (i7 (2 * s.mo.length) < (moG x0 s).length) = true := decide_eq_true (by rw [A9n]; show 2 * s.mo.length + 7 < _; omega)
 simp only [Cf, C9, go_sem, ↓reduceIte, hfm, hf, Al C, h1, A4 hm, h2, A9 C s.has (by omega), w1, w2, hcp, cpG, hT, (hg _).1, (hg _).2.1, (hg _).2.2, (hst _ _).1, (hst _ _).2]
 unfold VL
 rw [A0]
 have hjl : s.jf.length = s.has.length := by simp only [BM, Bool.and_eq_true, decide_eq_true_eq] at hf; exact hf.1.1.1.1.2
 refine AG (M := Nat) (I := fun i F h => i ≤ BO s.has m ∧ A3.tmp F 2 = .i .i64 m ∧ A3.tmp F 4 = .i .i64 w ∧ A3.tmp F 6 = .fp (Qa s) 0 ∧ A3.tmp F 10 = .p 1 0 0 0 ∧ A3.tmp F 12 = .p (i7 (2 * s.mo.length)) 0 0 0 ∧ A3.tmp F 13 = .i .i64 i ∧ h = moG x0 s) (μ := fun i => s.has.length - i) ?_ 0 _ _ ⟨Nat.zero_le _, ?_, ?_, ?_, ?_, ?_, ?_, rfl⟩
 ·rintro i F h ⟨hi, p2, p4, p6, p10, p12, p13, rfl⟩
  have hiff := Mh hi
  have hkl := G3 s.has m
  by_cases c : i < s.has.length
  ·cases c2 : decide (s.has.getD i 0 < (m : Int)) with
   | true =>
    have c2' := of_decide_eq_true c2
    have hlt := hiff.1 ⟨c, c2'⟩
    have hw : IntKind.i64.wrap ((i : Int) + 1) = ((i + 1 : Nat) : Int) := by rw [AE (by omega) (by omega)]; omega
    simp only [Er, C9, go_sem, ↓reduceIte, p2, p4, p6, p10, p12, p13, c, Aq c, c2, A0, hw, hlt0]
    refine ⟨i + 1, by omega, by omega, ?_⟩
    first | rfl | exact ⟨rfl, rfl⟩ | exact ⟨rfl, rfl, rfl⟩
   | false =>
    have c2' := of_decide_eq_false c2
    have e : i = BO s.has m := by
     rcases Nat.lt_or_ge i (BO s.has m) with h | h
     ·exact absurd (Ma h) c2'
     ·omega
    obtain ⟨A, hA⟩ : ∃ A, A = s.has.take i := ⟨_, rfl⟩
    obtain ⟨B, hB⟩ : ∃ B, B = s.has.drop i := ⟨_, rfl⟩
    obtain ⟨A', hA'⟩ : ∃ A, A = s.jf.take i := ⟨_, rfl⟩
    obtain ⟨B', hB'⟩ : ∃ B, B = s.jf.drop i := ⟨_, rfl⟩
    have lA : A.length = i := by rw [hA, List.length_take]; omega
    have lA' : A'.length = i := by rw [hA', List.length_take]; omega
    have lB : B.length = s.has.length - i := by rw [hB, List.length_drop]
    have lB' : B'.length = s.jf.length - i := by rw [hB', List.length_drop]
    have tB : List.take (s.has.length - i) B = B := List.take_of_length_le (by omega)
    have tB' : List.take (s.jf.length - i) B' = B' := List.take_of_length_le (by omega)
    have c1 : i ≤ s.has.length := by omega
    have c1' : i ≤ s.jf.length := by omega
    have b1 : A.length * 8 ≤ A6 := by unfold A6; omega
    have b1' : A'.length * 8 ≤ A6 := by unfold A6; omega
    have b2 : (A.length + 1) * 8 ≤ A6 := by unfold A6; omega
    have b2' : (A'.length + 1) * 8 ≤ A6 := by unfold A6; omega
    obtain ⟨b0, Bs, rfl⟩ : ∃ b0 Bs, B = b0 :: Bs := by
     cases B with
     | nil => simp at lB; omega
     | cons b0 Bs => exact ⟨b0, Bs, rfl⟩
    obtain ⟨b0', Bs', rfl⟩ : ∃ b0 Bs, B' = b0 :: Bs := by
     cases B' with
     | nil => simp at lB'; omega
     | cons b0 Bs => exact ⟨b0, Bs, rfl⟩
    rw [List.length_cons] at lB lB'
    have tBm : List.take (s.has.length - i) (eI b0 :: List.map eI Bs) = eI b0 :: List.map eI Bs := List.take_of_length_le (by simp; omega)
    have tBm' : List.take (s.jf.length - i) (eI b0' :: List.map eI Bs') = eI b0' :: List.map eI Bs' := List.take_of_length_le (by simp; omega)
    obtain ⟨X, hX⟩ : ∃ X, X = A ++ [(m : Int)] ++ b0 :: Bs := ⟨_, rfl⟩
    obtain ⟨X', hX'⟩ : ∃ X, X = A' ++ [w] ++ b0' :: Bs' := ⟨_, rfl⟩
    have jX : List.map eI (A ++ [(m : Int)]) ++ eI b0 :: List.map eI Bs = List.map eI X := by rw [hX, List.map_append (l₁ := A ++ [(m : Int)])]; rfl
    have jX' : List.map eI (A' ++ [w]) ++ eI b0' :: List.map eI Bs' = List.map eI X' := by rw [hX', List.map_append (l₁ := A' ++ [w])]; rfl
    have lX : A.length + 1 + (Bs.length + 1) = X.length := by rw [hX]; simp; omega
    have lX' : A'.length + 1 + (Bs'.length + 1) = X'.length := by rw [hX']; simp; omega
    have b3 : X.length * 8 ≤ A6 := by unfold A6; omega
    have b3' : X'.length * 8 ≤ A6 := by unfold A6; omega
    have eX : X = Ck s.has (BO s.has m) m := by rw [hX, Ck, ← e, ← hA, ← hB]; simp
    have eX' : X' = Ck s.jf (BO s.has m) w := by rw [hX', Ck, ← e, ← hA', ← hB']; simp
    simp only [Er, C9, go_sem, ↓reduceIte, p2, p4, p6, p10, p12, p13, c, Aq c, c2, A0, moG, ← hA, ← hB, ← hA', ← hB', tBm, tBm', c1, c1', b1, b1', b2, b2', b3, b3', List.length_append, List.length_map, hT, (hg _).1, (hg _).2.1, (hg _).2.2, (hst _ _).1, (hst _ _).2, jX, jX', lX, lX']
    exact ⟨_, _, by rw [eX, eX']; rfl, by rw [eX, eX']; rfl⟩
  ·have e : i = BO s.has m := by omega
   obtain ⟨A, hA⟩ : ∃ A, A = s.has.take i := ⟨_, rfl⟩
   obtain ⟨B, hB⟩ : ∃ B, B = s.has.drop i := ⟨_, rfl⟩
   obtain ⟨A', hA'⟩ : ∃ A, A = s.jf.take i := ⟨_, rfl⟩
   obtain ⟨B', hB'⟩ : ∃ B, B = s.jf.drop i := ⟨_, rfl⟩
   have lA : A.length = i := by rw [hA, List.length_take]; omega
   have lA' : A'.length = i := by rw [hA', List.length_take]; omega
   have lB : B.length = s.has.length - i := by rw [hB, List.length_drop]
   have lB' : B'.length = s.jf.length - i := by rw [hB', List.length_drop]
   have tB : List.take (s.has.length - i) B = B := List.take_of_length_le (by omega)
   have tB' : List.take (s.jf.length - i) B' = B' := List.take_of_length_le (by omega)
   have c1 : i ≤ s.has.length := by omega
   have c1' : i ≤ s.jf.length := by omega
   have b1 : A.length * 8 ≤ A6 := by unfold A6; omega
   have b1' : A'.length * 8 ≤ A6 := by unfold A6; omega
   have b2 : (A.length + 1) * 8 ≤ A6 := by unfold A6; omega
   have b2' : (A'.length + 1) * 8 ≤ A6 := by unfold A6; omega
   obtain rfl : B = [] := List.length_eq_zero_iff.1 (by omega)
   obtain rfl : B' = [] := List.length_eq_zero_iff.1 (by omega)
   have b3 : (A.length + 1 + 0) * 8 ≤ A6 := by unfold A6; omega
   have b3' : (A'.length + 1 + 0) * 8 ≤ A6 := by unfold A6; omega
   simp only [Er, C9, go_sem, ↓reduceIte, p2, p4, p6, p10, p12, p13, c, A0, moG, ← hA, ← hB, ← hA', ← hB', tB, tB', c1, c1', b1, b1', b2, b2', b3, b3', List.length_append, List.length_map, hT, (hg _).1, (hg _).2.1, (hg _).2.2, (hst _ _).1, (hst _ _).2]
   have eX : A ++ [(m : Int)] = Ck s.has (BO s.has m) m := by rw [Ck, ← e, ← hA, ← hB]
   have eX' : A' ++ [w] = Ck s.jf (BO s.has m) w := by rw [Ck, ← e, ← hA', ← hB']
   have lX : A.length + 1 = (Ck s.has (BO s.has m) m).length := by rw [← eX]; simp
   have lX' : A'.length + 1 = (Ck s.jf (BO s.has m) w).length := by rw [← eX']; simp
   exact ⟨_, _, by rw [lX, lX']; rfl, by rw [lX, lX', eX, eX']; rfl⟩
 ·simp only [C9, go_sem, ↓reduceIte]
 ·simp only [C9, go_sem, ↓reduceIte]
 ·simp only [C9, go_sem, ↓reduceIte]
 ·simp only [C9, go_sem, ↓reduceIte]
 ·simp only [C9, go_sem, ↓reduceIte]
 ·simp only [C9, go_sem, ↓reduceIte]
end
end Go.AM

namespace Go.AM
open Go Go.Proofs
theorem U9 (mo : List (List (List Int))) {loc : Nat} : ∀ {n : Nat}, loc < n → ∀ Y : VH, (H8 mo n ++ Y)[2 * loc]? = some (some (AP CR 1 ((mo.getD loc []).map GZ)))
 | 0, h, _ => by omega
 | n + 1, h, Y => by
  rw [H8, List.append_assoc]
  by_cases c : loc = n
  ·subst c
   rw [(Ml mo loc _).1]; rfl
  ·exact U9 mo (by omega) _
theorem KM (mo : List (List (List Int))) {n loc i : Nat} (hl : loc < n) (hi : i < n) (z : Option VO) (Y : VH) : ((H8 mo n).set (2 * loc) z ++ Y)[2 * i]? = some (if i = loc then z else some (AP CR 1 ((mo.getD i []).map GZ))) := by
 have hT := Cj mo n
 rw [List.getElem?_append_left (by rw [List.length_set]; omega), List.getElem?_set]
 by_cases c : i = loc
 ·subst c
  simp; omega
 ·rw [if_neg (by omega), if_neg c]
  have := U9 mo hi []
  rwa [List.append_nil] at this
theorem Z5 (mo : List (List (List Int))) (n loc j : Nat) (z : Option VO) (Y : VH) : ((H8 mo n).set (2 * loc) z ++ Y)[2 * n + j]? = Y[j]? := by
 have hT := Cj mo n
 rw [List.getElem?_append_right (by rw [List.length_set]; omega), List.length_set, hT]
 congr 1; omega
theorem Acm (mo : List (List (List Int))) (n loc j : Nat) (z y : Option VO) (Y : VH) : ((H8 mo n).set (2 * loc) z ++ Y).set (2 * n + j) y = (H8 mo n).set (2 * loc) z ++ Y.set j y := by
 have hT := Cj mo n
 have hl : ((H8 mo n).set (2 * loc) z).length = 2 * n := by rw [List.length_set]; exact hT
 have e := List.set_append_right (s := ((H8 mo n).set (2 * loc) z : List (Option VO))) (t := Y) (2 * n + j) y (by omega)
 rw [hl, Nat.add_sub_cancel_left] at e
 exact e
theorem PE {α : Type} {g : α → Option (α × List Nat)} {f h : Nat → α} {is : Nat → List Nat} : ∀ (n : Nat), (∀ i, i < n → g (f i) = some (h i, is i)) → ∃ ids, AW g ((List.range n).map f) = some ((List.range n).map h, ids) := by
 have app : ∀ (a b : List α) {x y : List α} {i j : List Nat}, AW g a = some (x, i) → AW g b = some (y, j) → AW g (a ++ b) = some (x ++ y, i ++ j) := by
  intro a
  induction a with
  | nil => intro b x y i j h1 h2; simp only [AW, Option.some.injEq, Prod.mk.injEq] at h1; obtain ⟨rfl, rfl⟩ := h1; exact h2
  | cons a0 a ih =>
   intro b x y i j h1 h2
   simp only [AW] at h1
   split at h1
   ·rename_i y0 i0 ys is e1 e2
    simp only [Option.some.injEq, Prod.mk.injEq] at h1
    obtain ⟨rfl, rfl⟩ := h1
    simp only [List.cons_append, AW, e1, ih b e2 h2, List.append_assoc]
   ·cases h1
 intro n
 induction n with
 | zero => intro _; exact ⟨[], rfl⟩
 | succ n ih =>
  intro hg
  obtain ⟨ids, e⟩ := ih fun i hi => hg i (by omega)
  refine ⟨ids ++ (is n ++ []), ?_⟩
  rw [List.range_succ, List.map_append, List.map_append]
  refine app _ _ e ?_
  simp only [List.map_cons, List.map_nil, AW, hg n (by omega)]
theorem Agm {H : VH} {d : Nat} {l : List (List Int)} {k : Nat} (hk : k < l.length) {v : VV} {X : List Int} {ids : List Nat} (hv : frz H (d + 2) v = some (.ls (X.map eI), ids)) :
  AW (fun row => AW (frz H (d + 2)) row) (List.take l.length ((l.map GZ).set k [v])) = some ((l.set k X).map GZ, ids) := by
 rw [List.take_of_length_le (by simp)]
 rw [List.map_set]
 refine R8 (l.map GZ) k [v] (GZ X) ids ?_ (by simpa using hk) ?_
 ·intro a ha
  obtain ⟨c, _, rfl⟩ := List.mem_map.1 ha
  simp only [go_sem, NO, ↓reduceIte]
 ·simp only [AW, hv, List.append_nil]
theorem W5 {f d : Nat} (hf : f = d + 4) {mo : List (List (List Int))} {loc : Nat} (hll : loc < mo.length) {L : List (List Int)} (hL : mo.getD loc [] = L) {a : Nat} (ha : a < L.length) (a0 a1 a2 a3 a4 a5 a6 : Option VO) {Y : VH} {idx v id : Nat} {X : List Int} (hid : id = i7 (2 * mo.length + idx))
  (hY : Y[idx]? = some (some ⟨AU, 1, v, false, X.map eI⟩)) :
  ∃ ids, AW (fun row => AW (frz (a0 :: a1 :: a2 :: a3 :: a4 :: a5 :: a6 :: ((H8 mo mo.length).set (2 * loc) (some ⟨CR, 1, L.length, false, (L.map GZ).set a [.sl id v 0 X.length]⟩) ++ Y)) f) row) (DK mo mo.length) = some ((mo.set loc (L.set a X)).map Em, ids) := by
 subst hid
 subst hf
 obtain ⟨ids, e⟩ := PE (g := fun row => AW (frz (a0 :: a1 :: a2 :: a3 :: a4 :: a5 :: a6 :: ((H8 mo mo.length).set (2 * loc) (some ⟨CR, 1, L.length, false, (L.map GZ).set a [.sl (i7 (2 * mo.length + idx)) v 0 X.length]⟩) ++ Y)) (d + 4)) row)
  (f := fun i => [.sl (i7 (2 * i)) (mo.getD i []).length 0 (mo.getD i []).length]) (h := fun i => Em ((mo.set loc (L.set a X)).getD i [])) (is := fun i => if i = loc then [i7 (2 * i), i7 (2 * mo.length + idx)] else [i7 (2 * i)]) mo.length (fun i hi => by
   by_cases c : i = loc
   ·subst c
    have h1 := fun z => KM mo hll hi z Y
    have h2 := fun z => Z5 mo mo.length i idx z Y
    rw [hL]
    have h3 : (mo.set i (L.set a X)).getD i [] = L.set a X := by rw [List.getD_eq_getElem?_getD, List.getElem?_set]; simp [hll]
    rw [h3]
    simp only [if_true] at h1
    simp only [My, go_sem, ↓reduceIte, h1, h2, hY, List.length_map, List.length_set, ↓reduceIte]
    rw [Agm ha (X := X) (ids := [i7 (2 * mo.length + idx)]) (by simp only [My, go_sem, ↓reduceIte, h2, hY, List.length_map])]
    rfl
   ·have h1 := fun z => KM mo hll hi z Y
    have h3 : (mo.set loc (L.set a X)).getD i [] = mo.getD i [] := by rw [List.getD_eq_getElem?_getD, List.getD_eq_getElem?_getD, List.getElem?_set_ne (by omega)]
    rw [h3]
    simp only [c, if_false] at h1 ⊢
    simp only [My, go_sem, ↓reduceIte, h1, List.length_map, ↓reduceIte])
 refine ⟨ids, ?_⟩
 rw [show DK mo mo.length = (List.range mo.length).map fun i => [VV.sl (i7 (2 * i)) (mo.getD i []).length 0 (mo.getD i []).length] from rfl, e]
 congr 2
 apply List.ext_getElem
 ·simp
 ·intro i h1 h2
  have hi : i < (mo.set loc (L.set a X)).length := by simpa using h1
  rw [List.getElem_map, List.getElem_map, List.getElem_range, List.getD_eq_getElem?_getD, List.getElem?_eq_getElem hi]; rfl
end Go.AM

namespace Go.AM
open Go Go.Proofs
theorem A6h {mo : List (List (List Int))} {n loc : Nat} (h : loc < n) : (DK mo n)[loc]? = some [.sl (i7 (2 * loc)) (mo.getD loc []).length 0 (mo.getD loc []).length] := by simp [DK, h]
theorem A63 (mo : List (List (List Int))) (k j : Nat) (Y : VH) : (H8 mo k ++ Y)[2 * k + j]? = Y[j]? := by
 have := Cj mo k
 rw [List.getElem?_append_right (by omega)]
 congr 1; omega
theorem A5R (mo : List (List (List Int))) (k j : Nat) (Y : VH) (z : Option VO) : (H8 mo k ++ Y).set (2 * k + j) z = H8 mo k ++ Y.set j z := by
 have hl := Cj mo k
 have e := List.set_append_right (s := (H8 mo k : List (Option VO))) (t := Y) (2 * k + j) z (by omega)
 rw [hl, Nat.add_sub_cancel_left] at e
 exact e
theorem A2Q (mo : List (List (List Int))) {n loc : Nat} (h : loc < n) (Y : VH) (z : Option VO) : (H8 mo n ++ Y).set (2 * loc) z = (H8 mo n).set (2 * loc) z ++ Y := by
 have hl := Cj mo n
 exact List.set_append_left (2 * loc) z (by omega)
def RW (t : A5) (s : Ac) (n at_ : Int) : Option Ac := match DO t s n 3 (-1) with
 | some s' =>
  let loc := (t.at n.toNat).loc.toNat
  let L := s'.mo.getD loc []
  if at_ < 1 ∨ (L.length : Int) ≤ at_ then none else
   let c := L.getD at_.toNat []
   let s'' : Ac := { s' with mo := s'.mo.set loc (L.set at_.toNat (Ck c (BO c n) n)) }
   if BM t s'' = true then some s'' else none
 | none => none
/-- The heap when a node is about to join. -/
def joH (s S : Ac) (v1 v2 : Nat) : VH := moE (some ⟨A7, 0, 0, false, [[.nl, .nl, .nl]]⟩) s S v1 v2 ++ [some Do, some Do, some Do, some ⟨A7, 0, 0, false, [Rt s S v1 v2]⟩]
theorem A9V (s S : Ac) (v1 v2 : Nat) : (joH s S v1 v2).length = 2 * s.mo.length + 14 := by
 have hT := Cj s.mo s.mo.length
 simp [joH, moE, hT]
theorem LL.mono {V : At} {g : Nat} {args : List VV} {h : VH} {Q Q' : VV → VH → Prop} (k : LL V g args h Q) (i : ∀ v h', Q v h' → Q' v h') : LL V g args h Q' := by
 obtain ⟨vf, e, hb⟩ := k
 exact ⟨vf, e, hb.mono i⟩
theorem A2x {s : Ac} (hs : Ja s) (hz : s.has.length < 1000 ∧ s.jf.length < 1000 ∧ ∀ l ∈ s.mo, ∀ c ∈ l, c.length < 1000) (n w : Int) (hj : s.jf.length = s.has.length) {loc a : Nat} {L : List (List Int)} (hL : s.mo.getD loc [] = L) (hll : loc < s.mo.length) {X : List Int} (hX : X.length ≤ 1000) :
  Ja ⟨(Bf s n w).has, (Bf s n w).jf, (Bf s n w).mo.set loc (L.set a X)⟩ := by
 have h1 := G3 s.has n
 have hm := Ap (d := []) hll
 rw [hL] at hm
 refine ⟨by show (Ck _ _ _).length ≤ 1000; rw [Gh h1]; omega, by show (Ck _ _ _).length ≤ 1000; rw [Gh (by omega)]; omega, by show (s.mo.set _ _).length ≤ 1000; rw [List.length_set]; exact hs.mo, ?_, ?_⟩
 ·intro l hl
  rcases List.mem_or_eq_of_mem_set hl with h | rfl
  ·exact hs.mi l h
  ·rw [List.length_set]; exact hs.mi L hm
 ·intro l hl c hc
  rcases List.mem_or_eq_of_mem_set hl with h | rfl
  ·exact hs.mc l h c hc
  ·rcases List.mem_or_eq_of_mem_set hc with h | rfl
   ·exact hs.mc L hm c h
   ·exact hX
section
variable {V : At} (C : AS V)
include C
set_option maxHeartbeats 8000000 in
theorem QA (t : A5) (ht : Aj t) (s : Ac) (hs : Ja s) (n kind w : Int) (h0 : Cd t s n kind = false) (x0 : Option VO) {Q : VV → VH → Prop} : LL V GL [vT t, JO s, .i .i64 n, .i .i64 kind, .i .i64 w] [x0] Q ↔ Q (.tu [.ag [.nl, .nl, .nl], .b false]) [x0, some ⟨A7, 0, 0, false, [[.nl, .nl, .nl]]⟩] := by
 refine MN ?_
 rw [EP C.h_z108]
 have hfm := fun (Q : VV → Prop) => C2 C t ht s hs (Q := Q)
 have hle := hs.has
 cases hf : BM t s with
 | false =>
  simp only [Cf, C9, go_sem, ↓reduceIte, hfm, hf]
 | true =>
 cases h1 : C3 t n with
 | false =>
  simp only [Cf, C9, go_sem, ↓reduceIte, hfm, hf, Al C, h1]
 | true =>
 obtain ⟨m, rfl, hm⟩ := Aa h1
 cases h2 : decide ((t.at m).kind = kind) with
 | false =>
  simp only [Cf, C9, go_sem, ↓reduceIte, hfm, hf, Al C, h1, A4 hm, h2]
 | true =>
 have w1 := DV s.has (m : Int)
 cases h3 : Be s.has (m : Int) with
 | true =>
  rw [h3] at w1
  simp only [Cf, C9, go_sem, ↓reduceIte, hfm, hf, Al C, h1, A4 hm, h2, A9 C s.has (by omega), w1]
 | false =>
 rw [h3] at w1
 have w2 := BT s.has (t.at m).up
 cases h4 : Be s.has (t.at m).up with
 | false =>
  rw [h4] at w2
  simp only [Cf, C9, go_sem, ↓reduceIte, hfm, hf, Al C, h1, A4 hm, h2, A9 C s.has (by omega), w1, w2]
 | true =>
  rw [Cd, hf, h1, Int.toNat_natCast, h2, h3, h4] at h0
  cases h0
set_option maxRecDepth 10000 in
set_option maxHeartbeats 16000000 in
theorem VM (t : A5) (ht : Aj t) (s : Ac) (hs : Ja s) (hz : s.has.length < 1000 ∧ s.jf.length < 1000 ∧ ∀ l ∈ s.mo, ∀ c ∈ l, c.length < 1000) (n at_ : Int) {Q : VV → Prop} : VP V A2E [vT t, JO s, .i .i64 n, .i .i64 at_] Q ↔ Q (HU (RW t s n at_)) := by
 refine Ab ?_
 rw [A8 C.c_z61.1 C.c_z61.2]
 unfold RW DO
 cases hok : Cd t s n 3 with
 | false =>
  have hm := fun (x0 : Option VO) (Q : VV → VH → Prop) => QA C t ht s hs n 3 (-1) hok x0 (Q := Q)
  simp only [HU, Pm, Bool.false_eq_true, if_false] at hm ⊢
  simp only [A2i, Cr, go_sem, ↓reduceIte, hm]
  rfl
 | true =>
  have hok' := hok
  simp only [Cd, Bool.and_eq_true, decide_eq_true_eq] at hok'
  obtain ⟨⟨⟨⟨hf, h1⟩, h2⟩, h3⟩, h4⟩ := hok'
  obtain ⟨m, rfl, hmn⟩ := Aa h1
  rw [Int.toNat_natCast] at h2
  have hmo : s.mo.length = t.locs.length := by simp only [BM, Bool.and_eq_true, decide_eq_true_eq] at hf; exact hf.1.1.1.2
  have hjl : s.jf.length = s.has.length := by simp only [BM, Bool.and_eq_true, decide_eq_true_eq] at hf; exact hf.1.1.1.1.2
  obtain ⟨l0, l1⟩ := ht.wloc hmn (.inr h2)
  obtain ⟨loc, hloc⟩ := Int.eq_ofNat_of_zero_le l0
  have hll : loc < s.mo.length := by omega
  rw [if_pos rfl]
  simp only [Int.toNat_natCast, hloc]
  simp only [A2i, Cr, go_sem, ↓reduceIte]
  refine LL.mono (Tj C t ht s hs hmn 3 (-1) hok _) ?_
  rintro _ _ ⟨v1, v2, rfl, rfl⟩
  have hT := Cj s.mo s.mo.length
  have hr := Pr s.mo s.mo.length
  have hat := A6h (mo := s.mo) hll
  have hTa := fun Y => U9 s.mo hll Y
  have hg := fun Y => Ml s.mo s.mo.length Y
  have hlr : loc < (DK s.mo s.mo.length).length := by omega
  have hix := G9 (ty := B9) (e := 1) (rows := DK s.mo s.mo.length) (by omega)
  have hj := fun j Y => A63 s.mo s.mo.length j Y
  have hsj := fun j Y z => A5R s.mo s.mo.length j Y z
  have hsl := fun Y z => A2Q s.mo hll Y z
  obtain ⟨L, hL⟩ : ∃ L, L = (Bf s m (-1)).mo.getD loc [] := ⟨_, rfl⟩
  have hL' : s.mo.getD loc [] = L := hL.symm
  have hsz := hs.mi' loc
  rw [← hL]
  rw [hL'] at hat hTa hsz
  cases c1 : decide (at_ < 1) with
  | true =>
   rw [if_pos (.inl (of_decide_eq_true c1))]
   simp only [HU, Pm]
   simp only [Cr, go_sem, ↓reduceIte, moE, hT, hat, hTa, A4 hmn, hloc, hll, hj 6, hsj 6, c1]
   rfl
  | false =>
  have c1' := of_decide_eq_false c1
  obtain ⟨a, rfl⟩ := Int.eq_ofNat_of_zero_le (show 0 ≤ at_ by omega)
  have c2n : decide ((L.length : Int) ≤ (a : Int)) = decide (L.length ≤ a) := decide_eq_decide.2 ⟨fun h => by omega, fun h => by omega⟩
  cases c2 : decide (L.length ≤ a) with
  | true =>
   have := of_decide_eq_true c2
   rw [if_pos (.inr (by omega))]
   simp only [HU, Pm]
   simp only [Cr, go_sem, ↓reduceIte, moE, hT, hat, hTa, A4 hmn, hloc, hll, hlr, hix, hj 6, hsj 6, c1, c2n, c2]
   rfl
  | false =>
  have c2' := of_decide_eq_false c2
  have c3 : a < L.length := by omega
  rw [if_neg (by omega), Int.toNat_natCast]
  obtain ⟨c, hcd⟩ : ∃ c, c = L.getD a [] := ⟨_, rfl⟩
  have hca : L[a]? = some c := by rw [Gt c3, hcd]
  have hcs := hs.mc' loc a
  rw [hL', ← hcd] at hcs
  have hcz : c.length < 1000 := by
   have hm := Ap (d := []) hll
   rw [hL'] at hm
   refine hz.2.2 L hm c ?_
   rw [hcd]
   exact Ap c3
  rw [← hcd]
  have hix2 := G9 (ty := CR) (e := 1) (rows := L.map GZ) (by rw [List.length_map]; omega)
  simp only [Cr, go_sem, ↓reduceIte, moE, hT, hat, hTa, A4 hmn, hloc, hll, hlr, hix, hj 6, hsj 6, c1, c2n, c2, hca, c3, hix2, List.length_map]
  have hao : AP CR 1 (L.map GZ) = ⟨CR, 1, L.length, false, L.map GZ⟩ := by
   unfold AP
   rw [if_neg (by rw [List.length_map]; omega), List.length_map]
  have dne : decide (i7 (2 * s.mo.length + 6) = 2 * s.mo.length + 7 + 1 + 1 + 1 + 1 + 1 + 1 + 1) = false := decide_eq_false (by show ¬ 2 * s.mo.length + 6 + 7 = 2 * s.mo.length + 7 + 7; omega)
  have dn6 : decide (6 = 2 * s.mo.length + 7 + 1 + 1 + 1 + 1 + 1 + 1 + 1) = false := decide_eq_false (by omega)
  have dnl : decide (i7 (2 * loc) = 2 * s.mo.length + 7 + 1 + 1 + 1 + 1 + 1 + 1 + 1) = false := decide_eq_false (by show ¬ 2 * loc + 7 = 2 * s.mo.length + 7 + 7; omega)
  have hj2 := fun j z Y => Z5 s.mo s.mo.length loc j z Y
  have hs2 := fun j z y Y => Acm s.mo s.mo.length loc j z y Y
  have hat2 : ∀ z Y, ((H8 s.mo s.mo.length).set (2 * loc) z ++ Y)[2 * loc]? = some z := fun z Y => by rw [KM s.mo hll hll z Y, if_pos rfl]
  unfold VL
  rw [A0]
  refine AG (M := Nat) (I := fun i F h => i ≤ BO c m ∧ A3.tmp F 2 = .i .i64 m ∧ A3.tmp F 3 = .i .i64 a ∧ A3.tmp F 4 = .fp (eT t) 0 ∧ A3.tmp F 8 = .p 0 0 0 0 ∧ A3.tmp F 10 = .p (i7 (2 * s.mo.length + 6)) 0 0 0 ∧ A3.tmp F 12 = .i .i64 loc ∧ A3.tmp F 13 = lI c ∧ A3.tmp F 14 = .i .i64 i ∧ h = joH s (Bf s m (-1)) v1 v2) (μ := fun i => c.length - i) ?_ 0 _ _ ⟨Nat.zero_le _, ?_, ?_, ?_, ?_, ?_, ?_, ?_, ?_, ?_⟩
  ·rintro i F h ⟨hi, p2, p3, p4, p8, p10, p12, p13, p14, rfl⟩
   have hiff := Mh hi
   have hkl := G3 c m
   have hlt0 : decide (i7 (2 * s.mo.length + 6) < (joH s (Bf s m (-1)) v1 v2).length) = true := decide_eq_true (by rw [A9V]; show 2 * s.mo.length + 6 + 7 < _; omega)
   by_cases ci : i < c.length
   ·cases ci2 : decide (c.getD i 0 < (m : Int)) with
    | true =>
     have ci2' := of_decide_eq_true ci2
     have hlt := hiff.1 ⟨ci, ci2'⟩
     have hw : IntKind.i64.wrap ((i : Int) + 1) = ((i + 1 : Nat) : Int) := by rw [AE (by omega) (by omega)]; omega
     simp only [Th, Cr, go_sem, ↓reduceIte, p2, p3, p4, p8, p10, p12, p13, p14, ci, Aq ci, ci2, A0, hw, hlt0]
     exact ⟨i + 1, by omega, by omega, rfl, rfl⟩
    | false =>
     have ci2' := of_decide_eq_false ci2
     have e : i = BO c m := by
      rcases Nat.lt_or_ge i (BO c m) with h | h
      ·exact absurd (Ma h) ci2'
      ·omega
     obtain ⟨A, hA⟩ : ∃ A, A = c.take i := ⟨_, rfl⟩
     obtain ⟨B, hB⟩ : ∃ B, B = c.drop i := ⟨_, rfl⟩
     have lA : A.length = i := by rw [hA, List.length_take]; omega
     have lB : B.length = c.length - i := by rw [hB, List.length_drop]
     have k1 : i ≤ c.length := by omega
     have b1 : A.length * 8 ≤ A6 := by unfold A6; omega
     have b2 : (A.length + 1) * 8 ≤ A6 := by unfold A6; omega
     obtain ⟨b0, Bs, rfl⟩ : ∃ b0 Bs, B = b0 :: Bs := by
      cases B with
      | nil => simp at lB; omega
      | cons b0 Bs => exact ⟨b0, Bs, rfl⟩
     rw [List.length_cons] at lB
     have tBm : List.take (c.length - i) (eI b0 :: List.map eI Bs) = eI b0 :: List.map eI Bs := List.take_of_length_le (by simp; omega)
     obtain ⟨X, hX⟩ : ∃ X, X = A ++ [(m : Int)] ++ b0 :: Bs := ⟨_, rfl⟩
     have jX : List.map eI (A ++ [(m : Int)]) ++ eI b0 :: List.map eI Bs = List.map eI X := by rw [hX, List.map_append (l₁ := A ++ [(m : Int)])]; rfl
     have lX : A.length + 1 + (Bs.length + 1) = X.length := by rw [hX]; simp; omega
     have b3 : X.length * 8 ≤ A6 := by unfold A6; omega
     have eX : X = Ck c (BO c m) m := by rw [hX, Ck, ← e, ← hA, ← hB]; simp
     rw [← eX]
     simp only [Th, Cr, go_sem, ↓reduceIte, p2, p3, p4, p8, p10, p12, p13, p14, ci, Aq ci, ci2, A0, joH, moE, List.cons_append, List.append_assoc, List.nil_append, hT, hat, hTa, hll, hlr, hix, hix2, hao, hj 6, hj 7, hsj 6, hsj 7, hsl, hj2 1, hj2 2, hj2 6, hj2 7, hs2 6, hs2 7, hat2, dne, dn6, dnl, k1, ← hA, ← hB, tBm, b1, b2, b3, jX, lX, c3, hca, List.length_append, List.length_map]
     obtain ⟨ids, hfM⟩ := W5 (f := 6) (d := 2) rfl hll hL' c3 (some ⟨A7, 0, 0, false, [[.nl, .nl, .nl]]⟩) (some ⟨A7, 0, 0, false, [Rt s (Bf s m (-1)) v1 v2]⟩) (some ⟨A7, 0, 0, false, [[.sl 3 (EK s.has.length) 0 s.has.length, .sl 4 (EK s.jf.length) 0 s.jf.length, .sl 6 (DK s.mo s.mo.length).length 0 (DK s.mo s.mo.length).length]]⟩) (some (P6 AU 1 (s.has.map eI))) (some (P6 AU 1 (s.jf.map eI))) (some ⟨A7, 0, 0, false, [[.sl 3 (EK s.has.length) 0 s.has.length, .sl 4 (EK s.jf.length) 0 s.jf.length, .sl 6 (DK s.mo s.mo.length).length 0 (DK s.mo s.mo.length).length]]⟩) (some (AP B9 1 (DK s.mo s.mo.length)))
      (Y := [some ⟨A7, 0, 0, false, [Rt s (Bf s m (-1)) v1 v2]⟩, some ⟨AU, 1, v1, false, (Bf s m (-1)).has.map eI⟩, some ⟨AU, 1, v2, false, (Bf s m (-1)).jf.map eI⟩, some Do, some Do, some Do, some ⟨A7, 0, 0, false, [Rt s (Bf s m (-1)) v1 v2]⟩, some ⟨AU, 1, EK A.length + 1 + 1, false, X.map eI⟩]) (idx := 7) (id := 2 * s.mo.length + 7 + 1 + 1 + 1 + 1 + 1 + 1 + 1) (X := X) (v := EK A.length + 1 + 1) (by show _ = 2 * s.mo.length + 7 + 7; omega) rfl
     simp only [Cr, go_sem, ↓reduceIte, hfM]
     have hsz2 := A2x hs hz (m : Int) (-1) hjl hL' hll (a := a) (X := X) (by omega)
     have hfm := fun (Q : VV → Prop) => C2 C t ht _ hsz2 (Q := Q)
     have eM : (Bf s m (-1)).mo = s.mo := rfl
     simp only [eM] at hfm ⊢
     cases hff : BM t ⟨(Bf s m (-1)).has, (Bf s m (-1)).jf, s.mo.set loc (L.set a X)⟩ with
     | false =>
      rw [if_neg (by decide)]
      simp only [Cr, go_sem, ↓reduceIte, p8, p10, hj2 1, hj2 2, hj2 6, Rt, hfm, hff]
      rfl
     | true =>
      rw [if_pos rfl]
      simp only [Cr, go_sem, ↓reduceIte, p8, p10, hj2 1, hj2 2, hj2 6, Rt, hfm, hff]
      obtain ⟨ids2, hfM2⟩ := W5 (f := 5) (d := 1) rfl hll hL' c3 (some ⟨A7, 0, 0, false, [Rt s (Bf s m (-1)) v1 v2]⟩) (some ⟨A7, 0, 0, false, [Rt s (Bf s m (-1)) v1 v2]⟩) (some ⟨A7, 0, 0, false, [[.sl 3 (EK s.has.length) 0 s.has.length, .sl 4 (EK s.jf.length) 0 s.jf.length, .sl 6 (DK s.mo s.mo.length).length 0 (DK s.mo s.mo.length).length]]⟩) (some (P6 AU 1 (s.has.map eI))) (some (P6 AU 1 (s.jf.map eI))) (some ⟨A7, 0, 0, false, [[.sl 3 (EK s.has.length) 0 s.has.length, .sl 4 (EK s.jf.length) 0 s.jf.length, .sl 6 (DK s.mo s.mo.length).length 0 (DK s.mo s.mo.length).length]]⟩) (some (AP B9 1 (DK s.mo s.mo.length)))
       (Y := [some ⟨A7, 0, 0, false, [Rt s (Bf s m (-1)) v1 v2]⟩, some ⟨AU, 1, v1, false, (Bf s m (-1)).has.map eI⟩, some ⟨AU, 1, v2, false, (Bf s m (-1)).jf.map eI⟩, some Do, some Do, some Do, some ⟨A7, 0, 0, false, [Rt s (Bf s m (-1)) v1 v2]⟩, some ⟨AU, 1, EK A.length + 1 + 1, false, X.map eI⟩]) (idx := 7) (id := 2 * s.mo.length + 7 + 1 + 1 + 1 + 1 + 1 + 1 + 1) (X := X) (v := EK A.length + 1 + 1) (by show _ = 2 * s.mo.length + 7 + 7; omega) rfl
      simp only [Cr, go_sem, ↓reduceIte, hfM2]
      rfl
   ·have e : i = BO c m := by omega
    obtain ⟨A, hA⟩ : ∃ A, A = c.take i := ⟨_, rfl⟩
    obtain ⟨B, hB⟩ : ∃ B, B = c.drop i := ⟨_, rfl⟩
    have lA : A.length = i := by rw [hA, List.length_take]; omega
    have lB : B.length = c.length - i := by rw [hB, List.length_drop]
    have k1 : i ≤ c.length := by omega
    have b1 : A.length * 8 ≤ A6 := by unfold A6; omega
    have b2 : (A.length + 1) * 8 ≤ A6 := by unfold A6; omega
    obtain rfl : B = [] := List.length_eq_zero_iff.1 (by omega)
    have tB : List.take (c.length - i) ([] : List Int) = [] := List.take_nil
    have b3 : (A.length + 1 + 0) * 8 ≤ A6 := by unfold A6; omega
    obtain ⟨X, hX⟩ : ∃ X, X = A ++ [(m : Int)] := ⟨_, rfl⟩
    have lX : A.length + 1 = X.length := by rw [hX]; simp
    have b4 : X.length * 8 ≤ A6 := by rw [← lX]; exact b2
    have b5 : (X.length + 0) * 8 ≤ A6 := b4
    have eX : X = Ck c (BO c m) m := by rw [hX, Ck, ← e, ← hA, ← hB]
    rw [← eX]
    simp only [Th, Cr, go_sem, ↓reduceIte, p2, p3, p4, p8, p10, p12, p13, p14, ci, A0, joH, moE, List.cons_append, List.append_assoc, List.nil_append, hT, hat, hTa, hll, hlr, hix, hix2, hao, hj 6, hj 7, hsj 6, hsj 7, hsl, hj2 1, hj2 2, hj2 6, hj2 7, hs2 6, hs2 7, hat2, dne, dn6, dnl, k1, ← hA, ← hB, tB, b1, b2, b3, b4, b5, lX, ← hX, c3, hca, List.length_append, List.length_map]
    obtain ⟨ids, hfM⟩ := W5 (f := 6) (d := 2) rfl hll hL' c3 (some ⟨A7, 0, 0, false, [[.nl, .nl, .nl]]⟩) (some ⟨A7, 0, 0, false, [Rt s (Bf s m (-1)) v1 v2]⟩) (some ⟨A7, 0, 0, false, [[.sl 3 (EK s.has.length) 0 s.has.length, .sl 4 (EK s.jf.length) 0 s.jf.length, .sl 6 (DK s.mo s.mo.length).length 0 (DK s.mo s.mo.length).length]]⟩) (some (P6 AU 1 (s.has.map eI))) (some (P6 AU 1 (s.jf.map eI))) (some ⟨A7, 0, 0, false, [[.sl 3 (EK s.has.length) 0 s.has.length, .sl 4 (EK s.jf.length) 0 s.jf.length, .sl 6 (DK s.mo s.mo.length).length 0 (DK s.mo s.mo.length).length]]⟩) (some (AP B9 1 (DK s.mo s.mo.length)))
     (Y := [some ⟨A7, 0, 0, false, [Rt s (Bf s m (-1)) v1 v2]⟩, some ⟨AU, 1, v1, false, (Bf s m (-1)).has.map eI⟩, some ⟨AU, 1, v2, false, (Bf s m (-1)).jf.map eI⟩, some Do, some Do, some Do, some ⟨A7, 0, 0, false, [Rt s (Bf s m (-1)) v1 v2]⟩, some ⟨AU, 1, EK A.length + 1, false, X.map eI⟩]) (idx := 7) (id := 2 * s.mo.length + 7 + 1 + 1 + 1 + 1 + 1 + 1 + 1) (X := X) (v := EK A.length + 1) (by show _ = 2 * s.mo.length + 7 + 7; omega) rfl
    simp only [Cr, go_sem, ↓reduceIte, hfM]
    have hsz2 := A2x hs hz (m : Int) (-1) hjl hL' hll (a := a) (X := X) (by omega)
    have hfm := fun (Q : VV → Prop) => C2 C t ht _ hsz2 (Q := Q)
    have eM : (Bf s m (-1)).mo = s.mo := rfl
    simp only [eM] at hfm ⊢
    cases hff : BM t ⟨(Bf s m (-1)).has, (Bf s m (-1)).jf, s.mo.set loc (L.set a X)⟩ with
    | false =>
     rw [if_neg (by decide)]
     simp only [Cr, go_sem, ↓reduceIte, p8, p10, hj2 1, hj2 2, hj2 6, Rt, hfm, hff]
     rfl
    | true =>
     rw [if_pos rfl]
     simp only [Cr, go_sem, ↓reduceIte, p8, p10, hj2 1, hj2 2, hj2 6, Rt, hfm, hff]
     obtain ⟨ids2, hfM2⟩ := W5 (f := 5) (d := 1) rfl hll hL' c3 (some ⟨A7, 0, 0, false, [Rt s (Bf s m (-1)) v1 v2]⟩) (some ⟨A7, 0, 0, false, [Rt s (Bf s m (-1)) v1 v2]⟩) (some ⟨A7, 0, 0, false, [[.sl 3 (EK s.has.length) 0 s.has.length, .sl 4 (EK s.jf.length) 0 s.jf.length, .sl 6 (DK s.mo s.mo.length).length 0 (DK s.mo s.mo.length).length]]⟩) (some (P6 AU 1 (s.has.map eI))) (some (P6 AU 1 (s.jf.map eI))) (some ⟨A7, 0, 0, false, [[.sl 3 (EK s.has.length) 0 s.has.length, .sl 4 (EK s.jf.length) 0 s.jf.length, .sl 6 (DK s.mo s.mo.length).length 0 (DK s.mo s.mo.length).length]]⟩) (some (AP B9 1 (DK s.mo s.mo.length)))
      (Y := [some ⟨A7, 0, 0, false, [Rt s (Bf s m (-1)) v1 v2]⟩, some ⟨AU, 1, v1, false, (Bf s m (-1)).has.map eI⟩, some ⟨AU, 1, v2, false, (Bf s m (-1)).jf.map eI⟩, some Do, some Do, some Do, some ⟨A7, 0, 0, false, [Rt s (Bf s m (-1)) v1 v2]⟩, some ⟨AU, 1, EK A.length + 1, false, X.map eI⟩]) (idx := 7) (id := 2 * s.mo.length + 7 + 1 + 1 + 1 + 1 + 1 + 1 + 1) (X := X) (v := EK A.length + 1) (by show _ = 2 * s.mo.length + 7 + 7; omega) rfl
     simp only [Cr, go_sem, ↓reduceIte, hfM2]
     rfl
  ·simp only [Cr, go_sem, ↓reduceIte]
  ·simp only [Cr, go_sem, ↓reduceIte]
  ·simp only [Cr, go_sem, ↓reduceIte]
  ·simp only [Cr, go_sem, ↓reduceIte]
  ·simp only [Cr, go_sem, ↓reduceIte]
  ·simp only [Cr, go_sem, ↓reduceIte]
  ·simp only [Cr, go_sem, ↓reduceIte]
  ·simp only [Cr, go_sem, ↓reduceIte]
  ·simp only [Cr, go_sem, ↓reduceIte, joH, moE]
end
end Go.AM

namespace Go.AM
open Go Go.Proofs
theorem JP.kind {t : A5} : ∀ {n u e : Nat}, JP t n u e → ∀ m, u < m → m < e → (t.at m).kind = 2 ∨ (t.at m).kind = 3 ∨ (t.at m).kind = 4 := by
 intro n
 induction n with
 | zero => intro u e h; exact absurd h (by simp [JP])
 | succ n ih =>
  intro u e h m h1 h2
  obtain ⟨⟨_, ht, _⟩, h⟩ := h
  rcases h with ⟨_, _, rfl⟩ | ⟨c, _, _, al, hb⟩ | ⟨c, _, _, vals, k, loc, mode, _, _, hk0, hke, hloc, hs, _⟩
  ·omega
  ·by_cases e1 : m = u + 1
   ·subst e1
    simp only [Dy, Bool.or_eq_true, Bool.and_eq_true, decide_eq_true_eq] at al
    rcases al with h | h
    ·exact .inr (.inr h.1.1.1.1.1)
    ·exact .inr (.inl h.1.1.1)
   ·exact ih hb m (by omega) h2
  ·obtain ⟨v, hv, a, b⟩ := HJ (k := k) (m := m) vals (by omega) (by omega)
   obtain ⟨s1, s2, s3⟩ := hs v hv
   by_cases e1 : m = k v
   ·subst e1
    simp only [EN, Bool.and_eq_true, decide_eq_true_eq] at s2
    exact .inl s2.1.1.1.1
   ·exact ih s3 m (by omega) b
theorem Aj.kind {t : A5} (h : Aj t) {m : Nat} (h2 : m < t.nodes.length) (h3 : 0 ≤ (t.at m).up) : (t.at m).kind = 2 ∨ (t.at m).kind = 3 ∨ (t.at m).kind = 4 := by
 by_cases c : m < t.locs.length
 ·have := (h.init m c).up; omega
 ·obtain ⟨s, h0, he, hs⟩ := h.thr
  obtain ⟨v, hv, a, b⟩ := HJ (k := s) (m := m) t.regs.length (by omega) (by omega)
  obtain ⟨hb, n, hn⟩ := hs v hv
  by_cases e1 : m = s v
  ·subst e1
   simp only [G7, Bool.and_eq_true, decide_eq_true_eq] at hb
   have := hb.1.1.1.1.1.2
   omega
  ·exact hn.kind m (by omega) b
structure Gr (t : A5) (s : Ac) (k : Nat) : Prop where
 big : Big t s k
 ok : ∀ x ∈ s.has, C3 t x = true
theorem Gr.sz {t : A5} (ht : Aj t) {s : Ac} {k : Nat} (h : Gr t s k) (hk : k ≤ 100) : Ja s := h.big.sz ht hk
theorem Gr.sz' {t : A5} {s : Ac} {k : Nat} (h : Gr t s k) (hk : k ≤ 100) : s.has.length < 1000 ∧ s.jf.length < 1000 ∧ ∀ l ∈ s.mo, ∀ c ∈ l, c.length < 1000 :=
 ⟨by have := h.big.has; omega, by have := h.big.jf; omega, fun l hl c hc => by have := h.big.mc l hl c hc; omega⟩
theorem A7F {t : A5} (ht : Aj t) : Gr t (Kq t) 0 := by
 refine ⟨A3J ht, fun x hx => ?_⟩
 simp only [Kq, EC, List.mem_map, List.mem_filter, List.mem_range] at hx
 obtain ⟨i, ⟨hi, _⟩, rfl⟩ := hx
 exact Da hi
theorem Pg {t : A5} {s s' : Ac} {k : Nat} (h : Gr t s k) {n kind w : Int} (e : DO t s n kind w = some s') : Gr t s' (k + 1) := by
 unfold DO at e
 split at e
 ·rename_i hok
  cases e
  simp only [Cd, BM, Bool.and_eq_true, decide_eq_true_eq] at hok
  refine ⟨A5G h.big hok.1.1.1.1.1.1.1.1.2 n w, ?_⟩
  intro x hx
  simp only [Bf, Ck, List.mem_append, List.mem_cons] at hx
  rcases hx with hx | rfl | hx
  ·exact h.ok x (List.mem_of_mem_take hx)
  ·exact hok.1.1.1.2
  ·exact h.ok x (List.mem_of_mem_drop hx)
 ·cases e
theorem A9B {t : A5} {s s' : Ac} {k : Nat} (h : Gr t s k) {n w : Int} (e : Sy t s n w = some s') : Gr t s' (k + 1) := by
 unfold Sy at e
 split at e
 ·rename_i x hx
  split at e
  ·cases e; exact Pg h hx
  ·cases e
 ·cases e
theorem A5n {t : A5} {s : Ac} {k loc : Nat} (h : Gr t s (k + 1)) {L : List (List Int)} (h0 : L ≠ []) (h1 : L.length ≤ 2 + k) (h2 : ∀ c ∈ L, c.length ≤ 2 + k) : Gr t { s with mo := s.mo.set loc L } (k + 1) := by
 refine ⟨⟨h.big.has, h.big.jf, by rw [List.length_set]; exact h.big.mo, ?_, ?_⟩, h.ok⟩
 ·intro l hl
  rcases List.mem_or_eq_of_mem_set hl with hl | rfl
  ·exact h.big.mi l hl
  ·exact ⟨h0, by omega⟩
 ·intro l hl c hc
  rcases List.mem_or_eq_of_mem_set hl with hl | rfl
  ·exact h.big.mc l hl c hc
  ·have := h2 c hc; omega
theorem Big.row {t : A5} {s : Ac} {k : Nat} (h : Big t s k) (loc : Nat) : (s.mo.getD loc []).length ≤ 1 + k ∧ ∀ c ∈ s.mo.getD loc [], c.length ≤ 1 + k := by
 by_cases hl : loc < s.mo.length
 ·have := Ap (d := []) hl
  exact ⟨(h.mi _ this).2, fun c hc => h.mc _ this c hc⟩
 ·rw [List.getD_eq_getElem?_getD, List.getElem?_eq_none (by omega)]
  simp
theorem A2e {t : A5} {s s' : Ac} {n kind w : Int} (e : DO t s n kind w = some s') : s'.mo = s.mo := by
 unfold DO at e
 split at e
 ·cases e; rfl
 ·cases e
theorem WL {t : A5} {s s' : Ac} {k : Nat} (h : Gr t s k) {n w : Int} (e : Lm t s n w = some s') : Gr t s' (k + 1) := by
 unfold Lm at e
 split at e
 ·rename_i x hx
  have hg := Pg h hx
  have hm := A2e hx
  split at e
  ·cases e
  ·cases e
   have hr := h.big.row (t.at n.toNat).loc.toNat
   rw [← hm] at hr
   refine A5n hg (by simp) ?_ ?_
   ·simp only [List.length_append, List.length_cons, List.length_take, List.length_drop]; omega
   ·intro c hc
    simp only [List.mem_append, List.mem_cons] at hc
    rcases hc with hc | rfl | hc
    ·have := hr.2 c (List.mem_of_mem_take hc); omega
    ·simp; omega
    ·have := hr.2 c (List.mem_of_mem_drop hc); omega
 ·cases e
theorem Aa1 {t : A5} {s s' : Ac} {k : Nat} (h : Gr t s k) {n w : Int} (e : RW t s n w = some s') : Gr t s' (k + 1) := by
 unfold RW at e
 split at e
 ·rename_i x hx
  have hg := Pg h hx
  have hm := A2e hx
  simp only at e
  split at e
  ·cases e
  ·rename_i hw
   split at e
   ·cases e
    have hr := h.big.row (t.at n.toNat).loc.toNat
    rw [← hm] at hr
    refine A5n hg ?_ ?_ ?_
    ·intro h0
     have := congrArg List.length h0
     rw [List.length_set] at this
     simp only [List.length_nil] at this
     omega
    ·rw [List.length_set]; omega
    ·intro c hc
     rcases List.mem_or_eq_of_mem_set hc with hc | rfl
     ·have := hr.2 c hc; omega
     ·have h1 := G3 ((x.mo.getD (t.at n.toNat).loc.toNat []).getD w.toNat []) n
      rw [Gh h1]
      have := hr.2 _ (Ap (d := []) (show w.toNat < (x.mo.getD (t.at n.toNat).loc.toNat []).length by omega))
      omega
   ·cases e
 ·cases e
def Ej (t : A5) (s : Ac) (i : Nat) : Bool := decide (0 ≤ (t.at i).up) && Be s.has (t.at i).up && !Be s.has i
def Gq (t : A5) (s : Ac) (k : Nat) : List Int := ((List.range k).filter (Ej t s)).map fun (i : Nat) => (i : Int)
theorem Aag {t : A5} {s : Ac} {k : Nat} (h : Ej t s k = true) : Gq t s (k + 1) = Gq t s k ++ [(k : Int)] := by
 unfold Gq
 rw [List.range_succ, List.filter_append, List.map_append]
 simp only [List.filter_cons, List.filter_nil, h, if_true, List.map_cons, List.map_nil]
theorem Vl {t : A5} {s : Ac} {k : Nat} (h : Ej t s k = false) : Gq t s (k + 1) = Gq t s k := by
 unfold Gq
 rw [List.range_succ, List.filter_append, List.map_append]
 simp [h]
theorem A4R {t : A5} {s : Ac} (k : Nat) : (Gq t s k).length ≤ k := by
 unfold Gq
 rw [List.length_map]
 exact Nat.le_trans (List.length_filter_le _ _) (by simp)
theorem A4D {t : A5} {s : Ac} {k : Nat} {x : Int} (h : x ∈ Gq t s k) : ∃ m : Nat, x = m ∧ m < k ∧ Ej t s m = true := by
 simp only [Gq, List.mem_map, List.mem_filter, List.mem_range] at h
 obtain ⟨i, ⟨hi, h⟩, rfl⟩ := h
 exact ⟨i, rfl, hi, h⟩
/-- May x read what y writes? -/
def Ks (t : A5) (n : Nat) (y : Int) : Bool := decide ((t.at y.toNat).kind = 3) && decide ((t.at y.toNat).loc = (t.at n).loc) && decide ((t.at y.toNat).val = (t.at n).val)
theorem A1p {l : List Int} {k : Nat} (hk : k < l.length) : l.take (k + 1) = l.take k ++ [l.getD k 0] := by
 rw [List.take_succ_eq_append_getElem hk, List.getD_eq_getElem?_getD, List.getElem?_eq_getElem hk]; rfl
def RC (t : A5) (s : Ac) (n k : Nat) : List Int := (s.has.take k).filter (Ks t n)
theorem Acc {t : A5} {s : Ac} {n k : Nat} (hk : k < s.has.length) (h : Ks t n (s.has.getD k 0) = true) : RC t s n (k + 1) = RC t s n k ++ [s.has.getD k 0] := by
 unfold RC
 rw [A1p hk, List.filter_append]
 simp only [List.filter_cons, List.filter_nil, h, if_true, Bool.false_eq_true, if_false, List.append_nil]
theorem ZB {t : A5} {s : Ac} {n k : Nat} (hk : k < s.has.length) (h : Ks t n (s.has.getD k 0) = false) : RC t s n (k + 1) = RC t s n k := by
 unfold RC
 rw [A1p hk, List.filter_append]
 simp only [List.filter_cons, List.filter_nil, h, if_true, Bool.false_eq_true, if_false, List.append_nil]
theorem A6v {t : A5} {s : Ac} {n : Nat} (k : Nat) : (RC t s n k).length ≤ s.has.length := by
 unfold RC
 refine Nat.le_trans (List.length_filter_le _ _) ?_
 rw [List.length_take]; omega
def Mz (t : A5) (s : Ac) (a b : Nat) : Option Ac :=
 let l := Gq t s t.nodes.length
 if l.length = 0 then none else
  let n := l.getD (a % l.length) 0
  let x := t.at n.toNat
  if x.kind = 4 then DO t s n 4 (-1) else
   if x.kind = 2 then
    let w := RC t s n.toNat s.has.length
    if w.length = 0 then none else Sy t s n (w.getD (b % w.length) 0)
   else
    let k := (s.mo.getD x.loc.toNat []).length
    let o := Lm t s n ((1 + b / 3 % k : Nat) : Int)
    if b % 3 = 0 ∧ 1 < k then (match RW t s n ((1 + b / 3 % (k - 1) : Nat) : Int) with
     | some s' => some s'
     | none => o) else o
theorem A9h {t : A5} {s s' : Ac} {k a b : Nat} (h : Gr t s k) (e : Mz t s a b = some s') : Gr t s' (k + 1) := by
 unfold Mz at e
 simp only at e
 split at e
 ·cases e
 ·split at e
  ·exact Pg h e
  ·split at e
   ·split at e
    ·cases e
    ·exact A9B h e
   ·split at e
    ·split at e
     ·rename_i s2 hj
      cases e; exact Aa1 h hj
     ·exact WL h e
    ·exact WL h e
theorem Gr.mono {t : A5} {s : Ac} {k j : Nat} (h : Gr t s k) (hk : k ≤ j) : Gr t s j := ⟨h.big.mono hk, h.ok⟩
def W9 (m : List U8) (i : Nat) : Nat := (m.getD i ⟨0⟩).n
theorem AfE {m : List U8} {i : Nat} (h : i < m.length) : m[i]? = some ⟨W9 m i⟩ := by
 rw [W9, List.getD_eq_getElem?_getD, List.getElem?_eq_getElem h]; rfl
theorem A6t {m : List U8} (hm : ∀ x ∈ m, x.n < 256) (i : Nat) : W9 m i < 256 := by
 unfold W9
 rw [List.getD_eq_getElem?_getD]
 cases h : m[i]? with
 | none => decide
 | some x => exact hm x (List.mem_of_getElem? h)
def G0 (t : A5) (m : List U8) : Nat → Ac
 | 0 => Kq t
 | k + 1 => (match Mz t (G0 t m k) (W9 m (2 * k)) (W9 m (2 * k + 1)) with
  | some s => s
  | none => G0 t m k)
theorem SJ {t : A5} {m : List U8} {k : Nat} {s : Ac} (e : Mz t (G0 t m k) (W9 m (2 * k)) (W9 m (2 * k + 1)) = some s) : G0 t m (k + 1) = s := by rw [G0, e]
theorem SB {t : A5} {m : List U8} {k : Nat} (e : Mz t (G0 t m k) (W9 m (2 * k)) (W9 m (2 * k + 1)) = none) : G0 t m (k + 1) = G0 t m k := by rw [G0, e]
theorem Vh {t : A5} (ht : Aj t) (m : List U8) : ∀ k, Gr t (G0 t m k) k
 | 0 => A7F ht
 | k + 1 => by
  have h := Vh ht m k
  cases e : Mz t (G0 t m k) (W9 m (2 * k)) (W9 m (2 * k + 1)) with
  | some s => rw [SJ e]; exact A9h h e
  | none => rw [SB e]; exact h.mono (by omega)
def Qz {α : Type} (l : List α) (d : α) (i k : Nat) : List α := (l.set i (l.getD k d)).set k (l.getD i d)
def A30 (s : Ac) (loc a b : Nat) : Ac := if s.mo.length = 0 then s else
 let r := loc % s.mo.length
 let l := s.mo.getD r []
 {s with mo := s.mo.set r (Qz l [] (a % l.length) (b % l.length)) }
end Go.AM

namespace Go.AM
open Go Go.Proofs
section
variable {V : At} (C : AS V) {Q : VV → Prop}
include C
set_option maxHeartbeats 4000000 in
theorem XC (t : A5) (ht : Aj t) (s : Ac) (hs : Ja s) : VP V A3p [vT t, JO s] Q ↔ Q (lI (Gq t s t.nodes.length)) := by
 refine Ab ?_
 rw [A8 C.c_z58.1 C.c_z58.2]
 have h64 := ht.n64
 have hle := hs.has
 simp only [A5X, Jy, go_sem, ↓reduceIte]
 refine Ad (by decide) t.nodes.length (by omega) (I := fun k F h => A3.tmp F 2 = .fp (eT t) 0 ∧ A3.tmp F 3 = .fp (Qa s) 0 ∧ ∃ L, L = Gq t s k ∧ A3.tmp F 5 = .sl 0 L.length 0 L.length ∧ h = [some (AP AU 1 (L.map eI))]) ?_ ?_ ?_ 0 _ _ (Nat.zero_le _) ?_ ?_
 ·rintro k F h hk p6 ⟨p2, p3, L, hL, p5, rfl⟩
  simp only [Jy, go_sem, ↓reduceIte, p2, p3, p5, p6]
  exact ⟨L, hL, rfl, rfl⟩
 ·rintro k F h hk p6 ⟨p2, p3, L, hL, p5, rfl⟩
  have hlen := A4R (t := t) (s := s) k
  have w1 := DV s.has (t.at k).up
  have w2 := BT s.has (k : Int)
  have b1 : (L.length + 1) * 8 ≤ A6 := by rw [← hL] at hlen; unfold A6; omega
  cases c1 : decide (0 ≤ (t.at k).up) with
  | false =>
   have e : Ej t s k = false := by simp [Ej, c1]
   simp only [Jy, go_sem, ↓reduceIte, p2, p3, p5, p6, hk, A4 hk, c1, A0]
   exact ⟨L, by rw [Vl e]; exact hL, rfl, rfl⟩
  | true =>
  cases c2 : Be s.has (t.at k).up with
  | false =>
   rw [c2] at w1
   have e : Ej t s k = false := by simp [Ej, c2]
   simp only [Jy, go_sem, ↓reduceIte, p2, p3, p5, p6, hk, A4 hk, c1, A9 C s.has (by omega), w1, A0]
   exact ⟨L, by rw [Vl e]; exact hL, rfl, rfl⟩
  | true =>
  rw [c2] at w1
  cases c3 : Be s.has (k : Int) with
  | true =>
   rw [c3] at w2
   have e : Ej t s k = false := by simp [Ej, c3]
   simp only [Jy, go_sem, ↓reduceIte, p2, p3, p5, p6, hk, A4 hk, c1, A9 C s.has (by omega), w1, w2, A0]
   exact ⟨L, by rw [Vl e]; exact hL, rfl, rfl⟩
  | false =>
   rw [c3] at w2
   have e : Ej t s k = true := by simp only [Ej, c1, c2, c3]; rfl
   simp only [Jy, go_sem, ↓reduceIte, p2, p3, p5, p6, hk, A4 hk, c1, A9 C s.has (by omega), w1, w2, A0, b1, A5Z, List.length_append, List.length_map]
   exact ⟨L ++ [(k : Int)], by rw [Aag e, hL], by simp, rfl⟩
 ·rintro F h ⟨p2, p3, L, hL, p5, rfl⟩
  subst hL
  simp only [Jy, go_sem, ↓reduceIte, p2, p3, p5, List.length_map]
 ·simp only [Jy, go_sem, ↓reduceIte]
 ·simp only [Jy, go_sem, ↓reduceIte]
  exact ⟨[], rfl, rfl, rfl⟩
end
end Go.AM

namespace Go.AM
open Go Go.Proofs
theorem E5 {e : Option Pa} {a l : Nat} (h : 0 < l) : B1 .rem e (.i .i64 (a : Int)) (.i .i64 (l : Int)) = some (.i .i64 ((a % l : Nat) : Int)) := by
 rw [Gu (by omega), Int.tmod_eq_emod_of_nonneg (by omega), Int.natCast_emod]
theorem A5l {e : Option Pa} {a l : Nat} (h : 0 < l) (ha : a ≤ 1000000) : B1 .quo e (.i .i64 (a : Int)) (.i .i64 (l : Int)) = some (.i .i64 ((a / l : Nat) : Int)) := by
 have := Nat.div_le_self a l
 have w : IntKind.i64.wrap ((a / l : Nat) : Int) = ((a / l : Nat) : Int) := by
  generalize a / l = q at this ⊢
  exact AE (by omega) (by omega)
 rw [A6H (by omega), Int.tdiv_eq_ediv_of_nonneg (by omega), ← Int.natCast_ediv, w]
theorem Cu (s : Ac) : HU (some s) = .tu [JO s, .b true] := rfl
theorem Cg : HU none = .tu [JO Pm, .b false] := rfl
def nxH (n : Ay) (W : List Int) : VH := [some ⟨A7, 0, 0, false, [[.nl, .nl, .nl]]⟩, some ⟨BJ, 0, 0, false, [eN n]⟩, some (AP AU 1 (W.map eI))]
section
variable {V : At} (C : AS V) {Q : VV → Prop}
include C
set_option maxRecDepth 4000 in
set_option maxHeartbeats 8000000 in
theorem WT (t : A5) (ht : Aj t) (s : Ac) {k : Nat} (hg : Gr t s k) (hk : k ≤ 90) (a b : Nat) (ha : a < 256) (hb : b < 256) : VP V A3o [vT t, JO s, .i .i64 a, .i .i64 b] Q ↔ Q (HU (Mz t s a b)) := by
 have hs := hg.sz ht (by omega)
 have hz := hg.sz' (by omega)
 refine Ab ?_
 rw [A8 C.c_z23.1 C.c_z23.2]
 have h64 := ht.n64
 have hfr := fun (Q : VV → Prop) => XC C t ht s hs (Q := Q)
 unfold Mz
 obtain ⟨l, hl⟩ : ∃ l, l = Gq t s t.nodes.length := ⟨_, rfl⟩
 rw [← hl] at hfr ⊢
 simp only
 cases c0 : decide (l.length = 0) with
 | true =>
  have c0' := of_decide_eq_true c0
  have c0i : decide ((l.length : Int) = 0) = true := decide_eq_true (by omega)
  rw [if_pos c0', Cg]
  simp only [HB, CS, go_sem, ↓reduceIte, hfr, c0, c0i, Pm, List.length_map]
  rfl
 | false =>
 have c0' := of_decide_eq_false c0
 have c0i : decide ((l.length : Int) = 0) = false := decide_eq_false (by omega)
 rw [if_neg c0']
 have r1 := E5 (e := none) (a := a) (l := l.length) (by omega)
 have hal : a % l.length < l.length := Nat.mod_lt _ (by omega)
 obtain ⟨n, hn, hnl, hfree⟩ := A4D (show l.getD (a % l.length) 0 ∈ Gq t s t.nodes.length from by rw [← hl]; exact Ap hal)
 have g1 := Aq hal
 rw [hn] at g1 ⊢
 rw [Int.toNat_natCast]
 have hup : 0 ≤ (t.at n).up := by simp only [Ej, Bool.and_eq_true, decide_eq_true_eq] at hfree; exact hfree.1.1
 have hkind := ht.kind hnl hup
 cases c4 : decide ((t.at n).kind = 4) with
 | true =>
  rw [if_pos (of_decide_eq_true c4)]
  have hbar := fun (Q : VV → Prop) => XR C t ht s hs n (Q := Q)
  cases hm : DO t s n 4 (-1) with
  | none =>
   rw [hm, Cg] at hbar
   rw [Cg]
   simp only [HB, CS, go_sem, ↓reduceIte, hfr, c0, c0i, r1, g1, hal, hnl, A4 hnl, c4, hbar, Pm, List.length_map, A0]
   rfl
  | some s' =>
   rw [hm, Cu] at hbar
   rw [Cu]
   simp only [HB, CS, go_sem, ↓reduceIte, hfr, c0, c0i, r1, g1, hal, hnl, A4 hnl, c4, hbar, List.length_map, A0]
 | false =>
 have c4' := of_decide_eq_false c4
 rw [if_neg c4']
 cases c2 : decide ((t.at n).kind = 2) with
 | true =>
  rw [if_pos (of_decide_eq_true c2)]
  have hle := hs.has
  simp only [HB, CS, go_sem, ↓reduceIte, hfr, c0, c0i, r1, g1, hal, hnl, A4 hnl, c4, c2, List.length_map, A0]
  refine Ad (by decide) s.has.length (by omega) (I := fun i F h => A3.tmp F 3 = .i .i64 b ∧ A3.tmp F 4 = .fp (eT t) 0 ∧ A3.tmp F 5 = .fp (Qa s) 0 ∧ A3.tmp F 8 = .p 0 0 0 0 ∧ A3.tmp F 11 = .i .i64 n ∧ A3.tmp F 12 = .p 1 0 0 0 ∧ ∃ W, W = RC t s n i ∧ A3.tmp F 13 = .sl 2 W.length 0 W.length ∧ h = nxH (t.at n) W) ?_ ?_ ?_ 0 _ _ (Nat.zero_le _) ?_ ?_
  ·rintro i F h hi p14 ⟨p3, p4, p5, p8, p11, p12, W, hW, p13, rfl⟩
   simp only [CS, go_sem, ↓reduceIte, p3, p4, p5, p8, p11, p12, p13, p14]
   exact ⟨W, hW, rfl, rfl⟩
  ·rintro i F h hi p14 ⟨p3, p4, p5, p8, p11, p12, W, hW, p13, rfl⟩
   have hlen := A6v (t := t) (s := s) (n := n) i
   rw [← hW] at hlen
   have b1 : (W.length + 1) * 8 ≤ A6 := by unfold A6; omega
   obtain ⟨y, hy, hyl⟩ := Aa (hg.ok _ (Ap hi))
   have g2 := Aq hi
   rw [hy] at g2
   cases d1 : decide ((t.at y).kind = 3) with
   | false =>
    have e : Ks t n (s.has.getD i 0) = false := by rw [hy]; simp only [Ks, Int.toNat_natCast, d1]; rfl
    simp only [CS, go_sem, ↓reduceIte, p3, p4, p5, p8, p11, p12, p13, p14, hi, g2, hyl, A4 hyl, d1, nxH, A0]
    exact ⟨W, by rw [ZB hi e]; exact hW, rfl, rfl⟩
   | true =>
   cases d2 : decide ((t.at y).loc = (t.at n).loc) with
   | false =>
    have e : Ks t n (s.has.getD i 0) = false := by rw [hy]; simp only [Ks, Int.toNat_natCast, d1, d2]; rfl
    simp only [CS, go_sem, ↓reduceIte, p3, p4, p5, p8, p11, p12, p13, p14, hi, g2, hyl, A4 hyl, d1, d2, nxH, A0]
    exact ⟨W, by rw [ZB hi e]; exact hW, rfl, rfl⟩
   | true =>
   cases d3 : decide ((t.at y).val = (t.at n).val) with
   | false =>
    have e : Ks t n (s.has.getD i 0) = false := by rw [hy]; simp only [Ks, Int.toNat_natCast, d1, d2, d3]; rfl
    simp only [CS, go_sem, ↓reduceIte, p3, p4, p5, p8, p11, p12, p13, p14, hi, g2, hyl, A4 hyl, d1, d2, d3, nxH, A0]
    exact ⟨W, by rw [ZB hi e]; exact hW, rfl, rfl⟩
   | true =>
    have e : Ks t n (s.has.getD i 0) = true := by rw [hy]; simp only [Ks, Int.toNat_natCast, d1, d2, d3]; rfl
    simp only [CS, go_sem, ↓reduceIte, p3, p4, p5, p8, p11, p12, p13, p14, hi, g2, hyl, A4 hyl, d1, d2, d3, nxH, A0, b1, A5Z, List.length_append, List.length_map]
    exact ⟨W ++ [(y : Int)], by rw [Acc hi e, hW, hy], by simp, rfl⟩
  ·rintro F h ⟨p3, p4, p5, p8, p11, p12, W, hW, p13, rfl⟩
   rw [← hW]
   cases d0 : decide (W.length = 0) with
   | true =>
    have d0' := of_decide_eq_true d0
    have d0i : decide ((W.length : Int) = 0) = true := decide_eq_true (by omega)
    rw [if_pos d0', Cg]
    simp only [CS, go_sem, ↓reduceIte, p3, p4, p5, p8, p11, p12, p13, d0, d0i, nxH, Pm]
    rfl
   | false =>
    have d0' := of_decide_eq_false d0
    have d0i : decide ((W.length : Int) = 0) = false := decide_eq_false (by omega)
    rw [if_neg d0']
    have r2 := E5 (e := none) (a := b) (l := W.length) (by omega)
    have hbl : b % W.length < W.length := Nat.mod_lt _ (by omega)
    have g3 := Aq hbl
    obtain ⟨x, hx⟩ : ∃ x, x = W.getD (b % W.length) 0 := ⟨_, rfl⟩
    rw [← hx] at g3 ⊢
    have hix := G9 (ty := AU) (e := 1) (rows := W.map eI) (by rw [List.length_map]; omega)
    have hread := fun (Q : VV → Prop) => Vp C t ht s hs ⟨hz.1, hz.2.1⟩ n x (Q := Q)
    cases hm : Sy t s n x with
    | none =>
     rw [hm, Cg] at hread
     rw [Cg]
     simp only [CS, go_sem, ↓reduceIte, p3, p4, p5, p8, p11, p12, p13, d0, d0i, r2, g3, hbl, hix, hread, nxH, Pm, List.length_map]
     rfl
    | some s' =>
     rw [hm, Cu] at hread
     rw [Cu]
     simp only [CS, go_sem, ↓reduceIte, p3, p4, p5, p8, p11, p12, p13, d0, d0i, r2, g3, hbl, hix, hread, nxH, List.length_map]
  ·simp only [CS, go_sem, ↓reduceIte]
  ·simp only [CS, go_sem, ↓reduceIte]
   exact ⟨[], rfl, rfl, rfl⟩
 | false =>
 have c2' := of_decide_eq_false c2
 rw [if_neg c2']
 have c3 : (t.at n).kind = 3 := by omega
 obtain ⟨l0, l1⟩ := ht.wloc hnl (.inr c3)
 obtain ⟨loc, hloc⟩ := Int.eq_ofNat_of_zero_le l0
 have hll : loc < s.mo.length := by have := hg.big.mo; omega
 simp only [hloc, Int.toNat_natCast]
 obtain ⟨L, hL⟩ : ∃ L, L = s.mo.getD loc [] := ⟨_, rfl⟩
 have gL := Cc hll
 rw [← hL] at gL ⊢
 have hm := hs.mi' loc
 rw [← hL] at hm
 have hL0 : 0 < L.length := by
  have := (hg.big.mi _ (Ap (d := []) hll)).1
  rw [← hL] at this
  cases L with
  | nil => exact absurd rfl this
  | cons _ _ => simp
 have r3 : B1 .rem none (.i .i64 (b : Int)) (.i .i64 3) = some (.i .i64 ((b % 3 : Nat) : Int)) := E5 (l := 3) (by omega)
 have q3 : B1 .quo none (.i .i64 (b : Int)) (.i .i64 3) = some (.i .i64 ((b / 3 : Nat) : Int)) := A5l (l := 3) (by omega) (by omega)
 have r4 := E5 (e := none) (a := b / 3) (l := L.length) hL0
 have r5 := fun h => E5 (e := none) (a := b / 3) (l := L.length - 1) h
 have hdiv := Nat.div_le_self b 3
 have hmd := Nat.mod_le (b / 3) L.length
 have w4 : IntKind.i64.wrap (1 + ((b / 3 % L.length : Nat) : Int)) = ((1 + b / 3 % L.length : Nat) : Int) := by rw [AE (by omega) (by omega)]; omega
 have hw := fun (Q : VV → Prop) => Rr C t ht s hs n ((1 + b / 3 % L.length : Nat) : Int) (Q := Q)
 have bw : b / 3 % L.length ≤ 1000 := by omega
 cases c5 : decide (b % 3 = 0 ∧ 1 < L.length) with
 | false =>
  rw [if_neg (of_decide_eq_false c5)]
  have c5' := of_decide_eq_false c5
  cases hm : Lm t s n ((1 + b / 3 % L.length : Nat) : Int) with
  | none =>
   rw [hm, Cg] at hw
   rw [Cg]
   cases d1 : decide (((b % 3 : Nat) : Int) = 0) with
   | false =>
    simp only [HB, CS, go_sem, ↓reduceIte, hfr, c0, c0i, r1, g1, hal, hnl, A4 hnl, c4, c2, hloc, hll, gL, r3, q3, r4, w4, d1, hw, Pm, List.length_map, A0]
    rfl
   | true =>
    have d1' := of_decide_eq_true d1
    have d2 : decide (1 < (L.length : Int)) = false := decide_eq_false (by omega)
    simp only [HB, CS, go_sem, ↓reduceIte, hfr, c0, c0i, r1, g1, hal, hnl, A4 hnl, c4, c2, hloc, hll, gL, r3, q3, r4, w4, d1, d2, hw, Pm, List.length_map, A0]
    rfl
  | some s' =>
   rw [hm, Cu] at hw
   rw [Cu]
   cases d1 : decide (((b % 3 : Nat) : Int) = 0) with
   | false =>
    simp only [HB, CS, go_sem, ↓reduceIte, hfr, c0, c0i, r1, g1, hal, hnl, A4 hnl, c4, c2, hloc, hll, gL, r3, q3, r4, w4, d1, hw, List.length_map, A0]
   | true =>
    have d1' := of_decide_eq_true d1
    have d2 : decide (1 < (L.length : Int)) = false := decide_eq_false (by omega)
    simp only [HB, CS, go_sem, ↓reduceIte, hfr, c0, c0i, r1, g1, hal, hnl, A4 hnl, c4, c2, hloc, hll, gL, r3, q3, r4, w4, d1, d2, hw, List.length_map, A0]
 | true =>
  have c5' := of_decide_eq_true c5
  rw [if_pos c5']
  have d1 : decide (((b % 3 : Nat) : Int) = 0) = true := decide_eq_true (by omega)
  have d2 : decide (1 < (L.length : Int)) = true := decide_eq_true (by omega)
  have w1 : IntKind.i64.wrap ((L.length : Int) - 1) = ((L.length - 1 : Nat) : Int) := by rw [AE (by omega) (by omega)]; omega
  have r5 := E5 (e := none) (a := b / 3) (l := L.length - 1) (by omega)
  have hmd2 := Nat.mod_le (b / 3) (L.length - 1)
  have w5 : IntKind.i64.wrap (1 + ((b / 3 % (L.length - 1) : Nat) : Int)) = ((1 + b / 3 % (L.length - 1) : Nat) : Int) := by
   generalize b / 3 % (L.length - 1) = z at hmd2 ⊢
   rw [AE (by omega) (by omega)]; omega
  have hjn := fun (Q : VV → Prop) => VM C t ht s hs hz n ((1 + b / 3 % (L.length - 1) : Nat) : Int) (Q := Q)
  cases hj : RW t s n ((1 + b / 3 % (L.length - 1) : Nat) : Int) with
  | some s' =>
   rw [hj, Cu] at hjn
   simp only [Cu]
   simp only [HB, CS, go_sem, ↓reduceIte, hfr, c0, c0i, r1, g1, hal, hnl, A4 hnl, c4, c2, hloc, hll, gL, r3, q3, r5, w5, w1, d1, d2, hjn, List.length_map, A0]
  | none =>
   rw [hj, Cg] at hjn
   simp only
   cases hm : Lm t s n ((1 + b / 3 % L.length : Nat) : Int) with
   | none =>
    rw [hm, Cg] at hw
    rw [Cg]
    simp only [HB, CS, go_sem, ↓reduceIte, hfr, c0, c0i, r1, g1, hal, hnl, A4 hnl, c4, c2, hloc, hll, gL, r3, q3, r4, w4, r5, w5, w1, d1, d2, hjn, hw, Pm, List.length_map, A0]
    rfl
   | some s' =>
    rw [hm, Cu] at hw
    rw [Cu]
    simp only [HB, CS, go_sem, ↓reduceIte, hfr, c0, c0i, r1, g1, hal, hnl, A4 hnl, c4, c2, hloc, hll, gL, r3, q3, r4, w4, r5, w5, w1, d1, d2, hjn, hw, Pm, List.length_map, A0]
end
end Go.AM

namespace Go.AM
open Go Go.Proofs
def grH (s : Ac) : VH := [some ⟨A7, 0, 0, false, [[.nl, .nl, .nl]]⟩, some ⟨A7, 0, 0, false, [Qa s]⟩]
section
variable {V : At} (C : AS V) {Q : VV → Prop}
include C
set_option maxRecDepth 4000 in
set_option maxHeartbeats 8000000 in
theorem TK (t : A5) (ht : Aj t) (m : List U8) (hl : m.length ≤ 100) (hm : ∀ x ∈ m, x.n < 256) : VP V A9A [vT t, lU m, .b false] Q ↔ Q (JO (G0 t m (m.length / 2))) := by
 refine Ab ?_
 rw [A8 C.c_z3.1 C.c_z3.2]
 simp only [Ada, ME, go_sem, ↓reduceIte, Rn C t ht]
 unfold VL
 rw [A0]
 refine AG (M := Nat) (I := fun k F h => 2 * k ≤ m.length ∧ A3.tmp F 1 = lU m ∧ A3.tmp F 2 = .b false ∧ A3.tmp F 3 = .fp (eT t) 0 ∧ A3.tmp F 6 = .p 0 0 0 0 ∧ A3.tmp F 7 = .p 1 0 0 0 ∧ A3.tmp F 8 = .i .i64 ((2 * k : Nat) : Int) ∧ h = grH (G0 t m k)) (μ := fun k => m.length - 2 * k) ?_ 0 _ _ ⟨by omega, ?_, ?_, ?_, ?_, ?_, ?_, ?_⟩
 ·rintro k F h ⟨hk, p1, p2, p3, p6, p7, p8, rfl⟩
  have w1 : IntKind.i64.wrap (((2 * k : Nat) : Int) + 1) = ((2 * k + 1 : Nat) : Int) := by rw [AE (by omega) (by omega)]; omega
  have w2 : IntKind.i64.wrap (((2 * k : Nat) : Int) + 2) = ((2 * (k + 1) : Nat) : Int) := by rw [AE (by omega) (by omega)]; omega
  by_cases c : 2 * k + 1 < m.length
  ·have ci : decide (((2 * k + 1 : Nat) : Int) < (m.length : Int)) = true := decide_eq_true (by omega)
   have c0 : 2 * k < m.length := by omega
   have g0 := AfE c0
   have g1 := AfE c
   have b0 := A6t hm (2 * k)
   have b1 := A6t hm (2 * k + 1)
   have v0 : IntKind.i64.wrap ((W9 m (2 * k) : Nat) : Int) = ((W9 m (2 * k) : Nat) : Int) := AE (by omega) (by omega)
   have v1 : IntKind.i64.wrap ((W9 m (2 * k + 1) : Nat) : Int) = ((W9 m (2 * k + 1) : Nat) : Int) := AE (by omega) (by omega)
   have hn := fun (Q : VV → Prop) => WT C t ht (G0 t m k) (Vh ht m k) (by omega) _ _ b0 b1 (Q := Q)
   cases e : Mz t (G0 t m k) (W9 m (2 * k)) (W9 m (2 * k + 1)) with
   | none =>
    rw [e, Cg] at hn
    simp only [A2c, ME, go_sem, ↓reduceIte, p1, p2, p3, p6, p7, p8, w1, w2, ci, c0, c, g0, g1, v0, v1, hn, grH, Pm, A0]
    exact ⟨k + 1, by omega, by omega, by rw [SB e]; exact ⟨rfl, rfl⟩⟩
   | some s' =>
    rw [e, Cu] at hn
    simp only [A2c, ME, go_sem, ↓reduceIte, p1, p2, p3, p6, p7, p8, w1, w2, ci, c0, c, g0, g1, v0, v1, hn, grH, A0]
    exact ⟨k + 1, by omega, by omega, by rw [SJ e]; exact ⟨rfl, rfl⟩⟩
  ·have ci : decide (2 * k + 1 < m.length) = false := decide_eq_false (by omega)
   have e : k = m.length / 2 := by omega
   simp only [A2c, ME, go_sem, ↓reduceIte, p1, p2, p3, p6, p7, p8, w1, w2, ci, grH, A0]
   rw [e]
 ·simp only [ME, go_sem, ↓reduceIte]
 ·simp only [ME, go_sem, ↓reduceIte]
 ·simp only [ME, go_sem, ↓reduceIte]
 ·simp only [ME, go_sem, ↓reduceIte]
 ·simp only [ME, go_sem, ↓reduceIte]
 ·simp only [ME, go_sem, ↓reduceIte]
 ·rfl
end
end Go.AM

namespace Go.AM
open Go Go.Proofs
theorem A6u (mo : List (List (List Int))) {n loc : Nat} (h : loc < n) (Y : VH) (z y : Option VO) : ((H8 mo n).set (2 * loc) y ++ Y).set (2 * loc) z = (H8 mo n).set (2 * loc) z ++ Y := by
 have hl := Cj mo n
 rw [List.set_append_left (2 * loc) z (by rw [List.length_set]; omega), List.set_set]
theorem A8B {f d : Nat} (hf : f = d + 4) {mo : List (List (List Int))} {loc : Nat} (hll : loc < mo.length) {L : List (List Int)} {v : Nat} (hv : (mo.getD loc []).length = v) (hL : L.length = v) (a0 a1 a2 a3 a4 a5 a6 : Option VO) {Y : VH} :
  ∃ ids, AW (fun row => AW (frz (a0 :: a1 :: a2 :: a3 :: a4 :: a5 :: a6 :: ((H8 mo mo.length).set (2 * loc) (some ⟨CR, 1, v, false, L.map GZ⟩) ++ Y)) f) row) (DK mo mo.length) = some ((mo.set loc L).map Em, ids) := by
 subst hf
 obtain ⟨ids, e⟩ := PE (g := fun row => AW (frz (a0 :: a1 :: a2 :: a3 :: a4 :: a5 :: a6 :: ((H8 mo mo.length).set (2 * loc) (some ⟨CR, 1, v, false, L.map GZ⟩) ++ Y)) (d + 4)) row)
  (f := fun i => [.sl (i7 (2 * i)) (mo.getD i []).length 0 (mo.getD i []).length]) (h := fun i => Em ((mo.set loc L).getD i [])) (is := fun i => [i7 (2 * i)]) mo.length (fun i hi => by
   by_cases c : i = loc
   ·subst c
    have h1 := fun z => KM mo hll hi z Y
    have h3 : (mo.set i L).getD i [] = L := by rw [List.getD_eq_getElem?_getD, List.getElem?_set]; simp [hll]
    rw [h3, hv]
    simp only [if_true] at h1
    simp only [My, go_sem, ↓reduceIte, h1, hL, List.take_of_length_le (Nat.le_of_eq (show (L.map GZ).length = v by rw [List.length_map]; exact hL)), List.length_map, ↓reduceIte]
   ·have h1 := fun z => KM mo hll hi z Y
    have h3 : (mo.set loc L).getD i [] = mo.getD i [] := by rw [List.getD_eq_getElem?_getD, List.getD_eq_getElem?_getD, List.getElem?_set_ne (by omega)]
    rw [h3]
    simp only [c, if_false] at h1 ⊢
    simp only [My, go_sem, ↓reduceIte, h1, List.length_map, ↓reduceIte])
 refine ⟨ids, ?_⟩
 rw [show DK mo mo.length = (List.range mo.length).map fun i => [VV.sl (i7 (2 * i)) (mo.getD i []).length 0 (mo.getD i []).length] from rfl, e]
 congr 2
 apply List.ext_getElem
 ·simp
 ·intro i h1 h2
  have hi : i < (mo.set loc L).length := by simpa using h1
  rw [List.getElem_map, List.getElem_map, List.getElem_range, List.getD_eq_getElem?_getD, List.getElem?_eq_getElem hi]; rfl
theorem Sd {α : Type} (l : List α) (d : α) (i k : Nat) : (Qz l d i k).length = l.length := by simp [Qz]
section
variable {V : At} (C : AS V) {Q : VV → Prop}
include C
set_option maxRecDepth 4000 in
set_option maxHeartbeats 8000000 in
theorem Qv (s : Ac) (hs : Ja s) (hne : ∀ l ∈ s.mo, l ≠ []) (loc a b : Nat) (hloc : loc < 256) (ha : a < 256) (hb : b < 256) : VP V A8j [JO s, .i .u8 loc, .i .u8 a, .i .u8 b] Q ↔ Q (JO (A30 s loc a b)) := by
 refine Ab ?_
 rw [A8 C.c_z4.1 C.c_z4.2]
 have hcp := fun (Q : VV → VH → Prop) => Mm C s hs (some ⟨A7, 0, 0, false, [Qa s]⟩) (some ⟨A7, 0, 0, false, [[.nl, .nl, .nl]]⟩) (Q := Q)
 have hT := Cj s.mo s.mo.length
 have hr := Pr s.mo s.mo.length
 have hg := fun Y => Ml s.mo s.mo.length Y
 have hst := fun Y z => TL s.mo s.mo.length Y z
 have hmo := hs.mo
 have hj := fun Y => A63 s.mo s.mo.length 3 Y
 have hsj := fun Y z => A5R s.mo s.mo.length 3 Y z
 unfold A30
 cases c0 : decide (s.mo.length = 0) with
 | true =>
  have c0' := of_decide_eq_true c0
  obtain hm : s.mo = [] := List.length_eq_zero_iff.1 c0'
  rw [if_pos c0']
  have hR0 : DK s.mo s.mo.length = [] := by rw [hm]; rfl
  simp only [A99, A3Q, go_sem, ↓reduceIte, hcp, cpG, hT, hr, hj, hsj, c0, hR0]
  show _ = [lI s.has, lI s.jf, .ls (s.mo.map Em)]
  rw [hm]; rfl
 | false =>
 have c0' := of_decide_eq_false c0
 have c0n : decide ((s.mo.length : Int) = 0) = false := decide_eq_false (by omega)
 rw [if_neg c0']
 simp only
 obtain ⟨r, hrr⟩ : ∃ r, r = loc % s.mo.length := ⟨_, rfl⟩
 have hll : r < s.mo.length := by rw [hrr]; exact Nat.mod_lt _ (by omega)
 have r1 := E5 (e := none) (a := loc) (l := s.mo.length) (by omega)
 rw [← hrr] at r1 ⊢
 obtain ⟨L, hL⟩ : ∃ L, s.mo.getD r [] = L := ⟨_, rfl⟩
 have hL0 : 0 < L.length := by
  have := hne _ (Ap (d := []) hll)
  rw [hL] at this
  cases L with
  | nil => exact absurd rfl this
  | cons _ _ => simp
 have hsz := hs.mi' r
 have hat := A6h (mo := s.mo) hll
 have hTa := fun Y => U9 s.mo hll Y
 rw [hL] at hat hTa hsz ⊢
 obtain ⟨i, hi⟩ : ∃ i, i = a % L.length := ⟨_, rfl⟩
 obtain ⟨k, hk⟩ : ∃ i, i = b % L.length := ⟨_, rfl⟩
 have hil : i < L.length := by rw [hi]; exact Nat.mod_lt _ hL0
 have hkl : k < L.length := by rw [hk]; exact Nat.mod_lt _ hL0
 have r2 := E5 (e := none) (a := a) (l := L.length) hL0
 have r3 := E5 (e := none) (a := b) (l := L.length) hL0
 rw [← hi] at r2 ⊢
 rw [← hk] at r3 ⊢
 have gi := Gt hil
 have gk := Gt hkl
 have hao : AP CR 1 (L.map GZ) = ⟨CR, 1, L.length, false, L.map GZ⟩ := by
  unfold AP
  rw [if_neg (by rw [List.length_map]; omega), List.length_map]
 have hix := G9 (ty := B9) (e := 1) (rows := DK s.mo s.mo.length) (by omega)
 have hsl := fun Y z => A2Q s.mo hll Y z
 have hsl2 := fun Y z y => A6u s.mo hll Y z y
 have hat2 : ∀ z Y, ((H8 s.mo s.mo.length).set (2 * r) z ++ Y)[2 * r]? = some z := fun z Y => by rw [KM s.mo hll hll z Y, if_pos rfl]
 have hj2 : ∀ z Y, ((H8 s.mo s.mo.length).set (2 * r) z ++ Y)[2 * s.mo.length + 3]? = Y[3]? := fun z Y => Z5 s.mo s.mo.length r 3 z Y
 have hset : ∀ x, (L.map GZ).set i [.ls (List.map eI x)] = (L.set i x).map GZ := fun x => by rw [List.map_set]
 have hset2 : ∀ x y, ((L.set i x).map GZ).set k [.ls (List.map eI y)] = ((L.set i x).set k y).map GZ := fun x y => by rw [List.map_set (l := L.set i x)]
 have gk2 : (L.set i (L.getD k []))[k]? = some ((L.set i (L.getD k [])).getD k []) := Gt (by rw [List.length_set]; exact hkl)
 have v0 : IntKind.i64.wrap (loc : Int) = loc := AE (by omega) (by omega)
 have v1 : IntKind.i64.wrap (a : Int) = a := AE (by omega) (by omega)
 have v2 : IntKind.i64.wrap (b : Int) = b := AE (by omega) (by omega)
 simp only [A99, A3Q, go_sem, ↓reduceIte, hcp, cpG, hT, hr, hat, hTa, hj, hsj, hsl, hsl2, hat2, hj2, c0, c0n, r1, r2, r3, v0, v1, v2, gi, gk, hil, hkl, hll, hao, hix, hset, hset2, gk2, List.length_map, List.length_set, List.drop_succ_cons, List.drop_zero]
 obtain ⟨ids, hfM⟩ := A8B (f := 6) (d := 2) rfl hll (L := Qz L [] i k) (v := L.length) (by rw [hL]) (Sd L [] i k) (some ⟨A7, 0, 0, false, [Qa s]⟩) (some ⟨A7, 0, 0, false, [[.sl 3 (EK s.has.length) 0 s.has.length, .sl 4 (EK s.jf.length) 0 s.jf.length, .sl 6 s.mo.length 0 s.mo.length]]⟩) (some ⟨A7, 0, 0, false, [[.sl 3 (EK s.has.length) 0 s.has.length, .sl 4 (EK s.jf.length) 0 s.jf.length, .sl 6 s.mo.length 0 s.mo.length]]⟩) (some (P6 AU 1 (s.has.map eI))) (some (P6 AU 1 (s.jf.map eI))) (some ⟨A7, 0, 0, false, [[.sl 3 (EK s.has.length) 0 s.has.length, .sl 4 (EK s.jf.length) 0 s.jf.length, .sl 6 s.mo.length 0 s.mo.length]]⟩) (some (AP B9 1 (DK s.mo s.mo.length)))
  (Y := [some Do, some Do, some Do, some ⟨A7, 0, 0, false, [[.sl 3 (EK s.has.length) 0 s.has.length, .sl 4 (EK s.jf.length) 0 s.jf.length, .sl 6 s.mo.length 0 s.mo.length]]⟩])
 have htk : List.take s.mo.length (DK s.mo s.mo.length) = DK s.mo s.mo.length := List.take_of_length_le (by omega)
 rw [Qz] at hfM ⊢
 simp only [A3Q, go_sem, ↓reduceIte, hfM, htk]
end
end Go.AM

namespace Go.AM
open Go Go.Proofs
theorem A4f {α : Type} {l : List α} {d : α} {i k : Nat} {x : α} (h : x ∈ Qz l d i k) : x ∈ l ∨ x = d := by
 have hg : ∀ j, l.getD j d ∈ l ∨ l.getD j d = d := fun j => by
  rw [List.getD_eq_getElem?_getD]
  cases e : l[j]? with
  | none => exact .inr rfl
  | some y => exact .inl (List.mem_of_getElem? e)
 unfold Qz at h
 rcases List.mem_or_eq_of_mem_set h with h | rfl
 ·rcases List.mem_or_eq_of_mem_set h with h | rfl
  ·exact .inl h
  ·exact hg _
 ·exact hg _
theorem A90 {s : Ac} (hs : Ja s) (loc a b : Nat) : Ja (A30 s loc a b) := by
 unfold A30
 split
 ·exact hs
 ·rename_i h0
  have hr : loc % s.mo.length < s.mo.length := Nat.mod_lt _ (by omega)
  have hm := Ap (d := []) hr
  refine ⟨hs.has, hs.jf, by show (List.set _ _ _).length ≤ 1000; rw [List.length_set]; exact hs.mo, ?_, ?_⟩
  ·intro l hl
   rcases List.mem_or_eq_of_mem_set hl with h | rfl
   ·exact hs.mi l h
   ·rw [Sd]; exact hs.mi _ hm
  ·intro l hl c hc
   rcases List.mem_or_eq_of_mem_set hl with h | rfl
   ·exact hs.mc l h c hc
   ·rcases A4f hc with h | rfl
    ·exact hs.mc _ hm c h
    ·simp
section
variable {V : At} (C : AS V)
include C
set_option maxRecDepth 4000 in
set_option maxHeartbeats 8000000 in
theorem law_CoheAll (hb : ∀ Q : VV → Prop, VP V A3A [] Q ↔ Q (.b true)) (l m : List U8) (hl : ∀ x ∈ l, x.n < 256) (hm : ∀ x ∈ m, x.n < 256) (loc i k : Nat) (h1 : loc < 256) (h2 : i < 256) (h3 : k < 256) (a b : Ay) (pa pb : Int) :
  VP V Aaa [lU l, lU m, .i .u8 loc, .i .u8 i, .i .u8 k, vN a, vN b, .i .i64 pa, .i .i64 pb] fun x => x = .b true := by
 rw [A8 C.c_z0.1 C.c_z0.2]
 by_cases c1 : (30 : Int) < l.length
 ·simp only [A4d, A0N, go_sem, ↓reduceIte, hb, c1]
 by_cases c2 : (40 : Int) < m.length
 ·simp only [A4d, A0N, go_sem, ↓reduceIte, hb, c1, c2]
 obtain ⟨_, ⟨t, ok, rfl, ht⟩, qT⟩ := Dq (UZ C l ⟨by omega, hl⟩)
 cases ok with
 | false => simp only [A4d, A0N, go_sem, ↓reduceIte, hb, c1, c2, qT]
 | true =>
 have ht := (ht rfl).1
 have hg := Vh ht m (m.length / 2)
 have qG := fun (Q : VV → Prop) => TK C t ht m (by omega) hm (Q := Q)
 obtain ⟨s, hs⟩ : ∃ s, s = G0 t m (m.length / 2) := ⟨_, rfl⟩
 rw [← hs] at hg qG
 have hz := hg.sz ht (by omega)
 have hz2 := A90 hz loc i k
 have qS := fun (Q : VV → Prop) => Qv C s hz (fun l hl => (hg.big.mi l hl).1) loc i k h1 h2 h3 (Q := Q)
 simp only [A4d, A0N, go_sem, ↓reduceIte, hb, c1, c2, qT, qG, qS, Mj C t ht s hz, GR C t ht s hz, Mj C t ht _ hz2, GR C t ht _ hz2, K7 C, Jo C, beq_self_eq_true]
end
end Go.AM
