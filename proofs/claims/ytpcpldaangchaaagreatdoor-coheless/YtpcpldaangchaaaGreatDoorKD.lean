/-
  Own work, part of the proof of CoheLess: what functions compute (fourth part).
-/
import Derived.Test.YtpcpldaangchaaaGreatDoorKC
import Derived.Test.YtpcpldaangchaaaGreatDoorAmF
import Derived.Test.YtpcpldaangchaaaGreatDoorPl
set_option maxRecDepth 4000
set_option linter.unusedVariables false
set_option linter.unusedSimpArgs false
set_option linter.unusedSectionVars false
set_option linter.unnecessarySimpa false
namespace Go.AM
open Go Go.Proofs
def Aja : Eo := leaf T4 ⟨YF, SJ⟩
theorem A5b : ∀ n : Fin 65, UC (AE, YA) Aja (leaf JG ⟨Mp, Hs⟩) 5000 ⟨A04, Sa⟩ [.i .u64 1, .i .u64 ((n.val : Nat) : Int)] [] (.tu [.i .u64 0, .i .u64 ((n.val : Nat) : Int)]) = true := by decide +kernel
/-- A list half full: m of n are laid. -/
def J2 (x : Int) (m n : Nat) : List Int := List.replicate m x ++ List.replicate (n - m) 0
theorem A3i {x : Int} {m n : Nat} (h : m ≤ n) : (J2 x m n).length = n := by simp [J2]; omega
theorem Xw {x : Int} {m n : Nat} (h : m ≤ n) : (J2 x m n).take m = List.replicate m x := by
 unfold J2
 rw [List.take_left' (by simp)]
theorem Ye (x : Int) (n : Nat) : J2 x n n = List.replicate n x := by simp [J2]
theorem A2x {x : Int} {n : Nat} (h : 0 < n) : List.take (min 1 n) [[VV.i IntKind.i64 x]] ++ List.map eI (List.drop (min 1 n) (List.replicate n 0)) = (J2 x 1 n).map eI := by
 rw [show min 1 n = 1 by omega]
 simp [J2]
theorem A00 {x : Int} {m n : Nat} (h : m ≤ n) : (List.replicate m x).map eI ++ ((List.take (min m (n - m)) (List.replicate m x)).map eI ++ (List.drop (m + min m (n - m)) (J2 x m n)).map eI) = (J2 x (m + min m (n - m)) n).map eI := by
 unfold J2
 rw [← List.map_append, ← List.map_append, List.take_replicate, List.drop_append]
 simp only [List.length_replicate, List.drop_replicate]
 rw [show min (min m (n - m)) m = min m (n - m) by omega, show m - (m + min m (n - m)) = 0 by omega, List.replicate_zero, List.nil_append, show m + min m (n - m) - m = min m (n - m) by omega,
  ← List.append_assoc, List.replicate_append_replicate, show n - m - min m (n - m) = n - (m + min m (n - m)) by omega]
theorem AdY (l : List Int) : ((l.map eI).all fun r => r.all VV.cell) = true := by
 rw [List.all_eq_true]
 intro r hr
 obtain ⟨x, _, rfl⟩ := List.mem_map.1 hr
 rfl
section
variable {V : Ao} (C : AL V) {Q : VV → Prop}
include C
theorem W5 {n : Nat} (hn : n ≤ 64) : VP V Pk [vW 1#64, .i .u64 (n : Int)] Q ↔ Q (.tu [vW 0#64, .i .u64 (n : Int)]) :=
 Aa (H7 (a := ⟨Pk, [.i .u64 1, .i .u64 (n : Int)], .tu [.i .u64 0, .i .u64 (n : Int)]⟩) (.of (.leaf C.c_z170) (.leaf C.h_z135) C.c_mathbits_TrailingZeros64) C.c_z139.1 C.c_z139.2 .nil (A5b ⟨n, by omega⟩))
set_option maxHeartbeats 4000000 in
theorem M9 (x : Int) {n : Nat} (hn : n ≤ 64) (h0 : 0 < n) (b : Nat) {Q : VV → VH → Prop} : ZT V A17 [.ls [[.i .i64 x]], .i .i64 n] b Q ↔ Q (.sl b 0 0 n) [some ⟨AS, 1, 0, false, (List.replicate n x).map eI⟩] := by
 refine Mq ?_
 rw [MJ C.c_z93.2]
 have b1 : n * 8 ≤ A5 := by unfold A5; omega
 have q1 : ¬ (n : Int) < 0 := by omega
 have q2 : ¬ ((n : Int) : Int) > 9223372036854775807 := by omega
 have q3 : IntKind.u64.wrap (n : Int) = n := by
  rw [show IntKind.u64.wrap (n : Int) = (n : Int) % 18446744073709551616 from rfl]; omega
 have q4 : IntKind.i64.wrap (n : Int) = n := AC (by omega) (by omega)
 have q5 : IntKind.u64.wrap 1 = 1 := rfl
 have q7 : AT .gtr none (vW 0#64) (vW 0#64) = some (.b false) := rfl
 have q6 : ¬ (9223372036854775807 : Int) < (n : Int) := by omega
 simp only [A4h, MW, go_sem, ↓reduceIte, b1, q1, q2, q3, q4, W5 C hn, Int.le_refl, q5, q6, q7, Int.toNat_natCast]
 unfold VL
 rw [A0]
 refine AI (M := Nat) (I := fun m F h => 0 < m ∧ m ≤ n ∧ A3.tmp F 7 = .sl 0 0 0 n ∧ A3.tmp F 8 = .i .i64 m ∧ h = [some ⟨AS, 1, 0, false, (J2 x m n).map eI⟩]) (μ := fun m => n - m) ?_ 1 _ _ ⟨by omega, by omega, ?_, ?_, ?_⟩
 ·rintro m F h ⟨m0, mn, p7, p8, rfl⟩
  by_cases c : m < n
  ·have c1 : (m : Int) < (n : Int) := by omega
   have hl := A3i (x := x) mn
   have hcp := A00 (x := x) mn
   have e1 : min m n = m := by omega
   have e2 : decide (m + (n - m) ≤ n) = true := decide_eq_true (by omega)
   have e3 : IntKind.i64.wrap ((m : Int) + ((min m (n - m) : Nat) : Int)) = ((m + min m (n - m) : Nat) : Int) := by rw [AC (by omega) (by omega)]; omega
   simp only [ZW, MW, go_sem, ↓reduceIte, p7, p8, c1, A0, hl, mn, Xw mn, e1, e2, hcp, e3, AdY]
   exact ⟨m + min m (n - m), by omega, by omega, by omega, rfl, rfl⟩
  ·have c1 : ¬ (m : Int) < (n : Int) := by omega
   have e : m = n := by omega
   subst e
   simp only [ZW, MW, go_sem, ↓reduceIte, p7, p8, c1, A0, Ye, Bf]
   simp
 ·simp only [MW, go_sem, ↓reduceIte]
 ·simp only [MW, go_sem, ↓reduceIte]
  omega
 ·rw [A2x h0]
end
end Go.AM

namespace Go.AM
open Go Go.Proofs
abbrev eSn (t : A4) (x f : List Int) : List VV := [.i .i64 t.vals, lS t.locs, .ls (t.regs.map HU), .ls (t.nodes.map eN), vW (D6 x), lI (onL t x f), lW (Bc t.nodes.length fun a b => Bo t a b)]
abbrev RS (t : A4) (x f : List Int) : VV := .fp (eSn t x f) 0
section
variable {V : Ao} (C : AL V) {Q : VV → Prop}
include C
theorem Q9 (n : Ax) : VP V Ql [vN n] Q ↔ Q (.b (Lt n)) := by
 refine Aa ?_
 rw [A8 C.c_z162.1 C.c_z162.2]
 cases c0 : decide (n.kind = 3) <;> cases c1 : decide (0 ≤ n.thread) <;> cases c4 : decide (n.kind = 4) <;> cases c2 : decide (n.mode = 2) <;> cases c3 : decide (n.mode = 3) <;>
  simp only [Zv, TP, go_sem, ↓reduceIte, c0, c1, c2, c3, c4, Lt]
theorem Q0 (n : Ax) : VP V NY [vN n] Q ↔ Q (.b (LU n)) := by
 refine Aa ?_
 rw [A8 C.c_z122.1 C.c_z122.2]
 cases c0 : decide (n.kind = 2) <;> cases c1 : decide (n.kind = 4) <;> cases c2 : decide (n.mode = 1) <;> cases c3 : decide (n.mode = 3) <;>
  simp only [Xz, Uw, go_sem, ↓reduceIte, c0, c1, c2, c3, LU]
theorem GD (t : A4) (x f : List Int) {n : Nat} (hn : n < t.nodes.length) : VP V SO [RS t x f, .i .i64 n] Q ↔ Q (.b (decide (0 ≤ (t.at n).thread))) := by
 refine Aa ?_
 rw [A8 C.c_z119.1 C.c_z119.2]
 simp only [ZY, Sz, go_sem, ↓reduceIte, A6 hn]
theorem Pi (t : A4) (x f : List Int) {n : Nat} (hn : n < t.nodes.length) {g : Nat} {p : Bool} (hg : ∀ Q : VV → Prop, VP V g [vN (t.at n)] Q ↔ Q (.b p)) : VP V Sh [RS t x f, .i .i64 n, .f g [] []] Q ↔ Q (.b (decide ((t.at n).kind = 4) && p)) := by
 refine Aa ?_
 rw [A8 C.c_z123.1 C.c_z123.2]
 cases c : decide ((t.at n).kind = 4) <;> simp only [Xq, TK, go_sem, ↓reduceIte, A6 hn, c, hg]
theorem Tq (t : A4) (ht : Aj t) (x f : List Int) (hx : CI t x) {n : Nat} (hn : n < t.nodes.length) : VP V SX [RS t x f, .i .i64 n] Q ↔ Q (.i .i64 (ahF t x f n)) := by
 refine Aa ?_
 rw [A8 C.c_z121.1 C.c_z121.2]
 have hh := hx.has ht.n64
 unfold ahF
 rw [Int.toNat_natCast]
 cases c : (t.at n).rmw with
 | false => simp only [Pg, Me, go_sem, ↓reduceIte, A6 hn, c, Bool.false_eq_true, false_and]
 | true =>
  cases c2 : BB x (t.at n).up with
  | false => simp only [Pg, Me, go_sem, ↓reduceIte, A6 hn, c, AQ C, hh, c2, Bool.false_eq_true, and_false]
  | true =>
   obtain ⟨m, hm1, hm⟩ := Aq (hx _ (Ag.1 c2))
   rw [hm1] at c2 ⊢
   simp only [Pg, Me, go_sem, ↓reduceIte, A6 hn, c, AQ C, hh, c2, hm1, HH hm, and_self]
theorem Uq (t : A4) (ht : Aj t) (x f : List Int) (hx : CI t x) {n : Nat} (hn : n < t.nodes.length) : VP V Su [RS t x f, .i .i64 n] Q ↔ Q (.b (Ht t x f n)) := by
 refine Aa ?_
 rw [A8 C.c_z112.1 C.c_z112.2]
 have hh := hx.has ht.n64
 unfold Ht
 rw [Int.toNat_natCast]
 cases c : decide ((t.at n).kind = 2) with
 | false =>
  have c' := of_decide_eq_false c
  simp only [PQ, ME, go_sem, ↓reduceIte, A6 hn, c, HH hn, c']
 | true =>
  have c' := of_decide_eq_true c
  cases c2 : BB x (Jk x f n) with
  | false => simp only [PQ, ME, go_sem, ↓reduceIte, A6 hn, c, HH hn, c', AQ C, hh, c2, Bool.false_and]
  | true =>
   obtain ⟨m, hm1, hm⟩ := Aq (hx _ (Ag.1 c2))
   rw [hm1] at c2 ⊢
   cases c3 : decide ((t.at m).kind = 3) <;> simp only [PQ, ME, go_sem, ↓reduceIte, A6 hn, c, HH hn, c', AQ C, hh, c2, hm1, A6 hm, c3, JH, Int.toNat_natCast, Bool.true_and, Bool.false_and]
set_option maxHeartbeats 4000000 in
theorem ZQ (t : A4) (ht : Aj t) (x f : List Int) (hx : CI t x) {w : Nat} (hw : w < t.nodes.length) : VP V Uo [RS t x f, .i .i64 w] Q ↔ Q (vW (Lu t x w)) := by
 refine Aa ?_
 rw [A8 C.c_z120.1 C.c_z120.2]
 have h64 := ht.n64
 have hll := Du (D6 x)
 obtain ⟨s0, hs0, hb0⟩ : ∃ s0, s0 = (if Lt (t.at w) = true then 0#64 ||| CX (w : Int) else 0#64) ∧ ∀ j, j < 64 → s0.getLsbD j = (decide (j = w) && Lt (t.at w)) := by
  refine ⟨_, rfl, fun j hj => ?_⟩
  by_cases c : Lt (t.at w) = true
  ·have e : decide ((j : Int) = (w : Int) ∧ j < 64) = decide (j = w) := decide_eq_decide.2 ⟨fun h => by omega, fun h => ⟨by omega, hj⟩⟩
   rw [if_pos c, BitVec.getLsbD_or, CR, e, c]; simp
  ·rw [if_neg c, Bool.eq_false_iff.2 c]; simp
 let p : Int → Bool := fun n => decide ((t.at n.toNat).kind = 4) && Lt (t.at n.toNat) && Bo t n w
 have hfin : Eh p s0 (AK (D6 x)) = Lu t x w := by
  apply BZ
  intro j hj
  rw [Ri p j hj, hb0 j hj, Lu, AF, A6F, decide_eq_true hj, Bool.and_true]
  have e1 : BB (AK (D6 x)) (j : Int) = BB x (j : Int) := by
   rw [Bool.eq_iff_iff, Ag, Ag]; exact hx.list h64 _
  have e2 : (decide (j = w) && Lt (t.at w)) = (decide ((j : Int) = (w : Int)) && Lt (t.at j)) := by
   by_cases c : j = w
   ·subst c; simp
   ·have c' : ¬ (j : Int) = (w : Int) := by omega
    simp [c, c']
  rw [e1, e2]
  simp only [p, Int.toNat_natCast, Bool.and_assoc]
 cases c0 : Lt (t.at w) <;> simp only [c0, Bool.false_eq_true, if_true, if_false] at hs0 <;> (
 simp only [ZI, ER, go_sem, ↓reduceIte, A6 hw, Q9 C, CT C, Do C, c0, ← hs0]
 refine Ah (by decide) (AK (D6 x)).length (by omega) (I := fun k F h => A3.tmp F 0 = RS t x f ∧ A3.tmp F 1 = .i .i64 w ∧ A3.tmp F 24 = lI (AK (D6 x)) ∧ h = [] ∧ A3.tmp F 5 = vW (Eh p s0 ((AK (D6 x)).take k))) ?_ ?_ 0 _ _ (by omega) ?_ ?_ ?_
 ·rintro k F h hk p26 p25 ⟨p0, p1, p24, rfl, p5⟩
  obtain ⟨m, hm1, hm⟩ := Aq (hx _ ((hx.list h64 _).1 (Au (d := 0) hk)))
  have hT : Eh p s0 ((AK (D6 x)).take (k + 1)) = if p m = true then Eh p s0 ((AK (D6 x)).take k) ||| CX m else Eh p s0 ((AK (D6 x)).take k) := by rw [Pw hk, hm1]
  have hp : p m = (decide ((t.at m).kind = 4) && Lt (t.at m) && Bo t m w) := by simp only [p, Int.toNat_natCast]
  have hbar := fun (Q : VV → Prop) => Pi C t x f hm (g := Ql) (p := Lt (t.at m)) (fun Q => Q9 C (t.at m)) (Q := Q)
  rw [hT, hp]
  cases c1 : (decide ((t.at m).kind = 4) && Lt (t.at m)) with
  | false => simp only [ER, go_sem, ↓reduceIte, p26, p25, p0, p1, p24, p5, Ay hk, hk, hm1, hbar, c1, A0, Bool.false_and, Bool.false_eq_true]
  | true =>
   have hpo := VQ (p := fun a b => Bo t a b) h64 hm hw
   rw [HA hm] at hpo
   have hg := EO (n := t.nodes.length) (p := fun a b => Bo t a b) hm
   cases c2 : Bo t m w with
   | false =>
    rw [c2] at hpo
    simp only [ER, go_sem, ↓reduceIte, p26, p25, p0, p1, p24, p5, Ay hk, hk, hm1, hbar, c1, A0, hg, AQ C, hpo, Bool.and_false, Bool.false_eq_true]
   | true =>
    rw [c2] at hpo
    simp only [ER, go_sem, ↓reduceIte, p26, p25, p0, p1, p24, p5, Ay hk, hk, hm1, hbar, c1, A0, hg, AQ C, hpo, CT C, Bool.and_self]
 ·rintro F h ⟨p0, p1, p24, rfl, p5⟩
  simp only [ER, go_sem, ↓reduceIte, p0, p1, p24, p5, List.take_length, hfin]
 ·simp only [ER, go_sem, ↓reduceIte]
 ·simp only [ER, go_sem, ↓reduceIte]
 ·simp only [ER, go_sem, ↓reduceIte]
  rfl)
set_option maxHeartbeats 4000000 in
theorem WM (t : A4) (ht : Aj t) (x f : List Int) (hx : CI t x) {r : Nat} (hr : r < t.nodes.length) : VP V Pr [RS t x f, .i .i64 r] Q ↔ Q (vW (Bw (HK t x r))) := by
 refine Aa ?_
 rw [A8 C.c_z75.1 C.c_z75.2]
 have h64 := ht.n64
 let X := D6 x &&& Bw fun b => decide (b < t.nodes.length) && Bo t r b
 have hX : X = D6 x &&& Bw fun b => decide (b < t.nodes.length) && Bo t r b := rfl
 have hll := Du X
 have hg := EO (n := t.nodes.length) (p := fun a b => Bo t a b) hr
 have hXm : ∀ y : Int, y ∈ AK X ↔ y ∈ x ∧ Bo t r y = true := by
  intro y
  rw [DW]
  constructor
  ·intro h
   obtain ⟨h1, h2⟩ := Hi h
   obtain ⟨m, rfl⟩ := Int.eq_ofNat_of_zero_le h1
   rw [B7, hX, BitVec.getLsbD_and, AF, Bool.and_eq_true, Bool.and_eq_true, Bool.and_eq_true] at h
   exact ⟨by rw [← Ag, ← hx.has h64, B7]; exact h.1, h.2.1.2⟩
  ·rintro ⟨h1, h2⟩
   obtain ⟨m, rfl, hm⟩ := Aq (hx _ h1)
   rw [B7, hX, BitVec.getLsbD_and, AF, h2, ← B7, hx.has h64, Ag.2 h1, decide_eq_true hm, decide_eq_true (show m < 64 by omega)]; rfl
 obtain ⟨s0, hs0, hb0⟩ : ∃ s0, s0 = (if LU (t.at r) = true then 0#64 ||| CX (r : Int) else 0#64) ∧ ∀ j, j < 64 → s0.getLsbD j = (decide (j = r) && LU (t.at r)) := by
  refine ⟨_, rfl, fun j hj => ?_⟩
  by_cases c : LU (t.at r) = true
  ·have e : decide ((j : Int) = (r : Int) ∧ j < 64) = decide (j = r) := decide_eq_decide.2 ⟨fun h => by omega, fun h => ⟨by omega, hj⟩⟩
   rw [if_pos c, BitVec.getLsbD_or, CR, e, c]; simp
  ·rw [if_neg c, Bool.eq_false_iff.2 c]; simp
 let p : Int → Bool := fun n => decide ((t.at n.toNat).kind = 4) && LU (t.at n.toNat)
 have hfin : Eh p s0 (AK X) = Bw (HK t x r) := by
  apply BZ
  intro j hj
  rw [Ri p j hj, hb0 j hj, AF, HK, decide_eq_true hj, Bool.and_true]
  have e1 : BB (AK X) (j : Int) = (BB x (j : Int) && Bo t r j) := by
   rw [Bool.eq_iff_iff, Ag, hXm, Bool.and_eq_true, Ag]
  have e2 : (decide (j = r) && LU (t.at r)) = (decide ((j : Int) = (r : Int)) && LU (t.at j)) := by
   by_cases c : j = r
   ·subst c; simp
   ·have c' : ¬ (j : Int) = (r : Int) := by omega
    simp [c, c']
  rw [e1, e2]
  simp only [p, Int.toNat_natCast]
  cases BB x (j : Int) <;> cases Bo t r j <;> simp
 cases c0 : LU (t.at r) <;> simp only [c0, Bool.false_eq_true, if_true, if_false] at hs0 <;> (
 simp only [A6Y, Kt, go_sem, ↓reduceIte, A6 hr, Q0 C, CT C, Do C, c0, hg, ← hs0, ← hX]
 refine Ah (by decide) (AK X).length (by omega) (I := fun k F h => A3.tmp F 0 = RS t x f ∧ A3.tmp F 32 = lI (AK X) ∧ h = [] ∧ A3.tmp F 5 = vW (Eh p s0 ((AK X).take k))) ?_ ?_ 0 _ _ (by omega) ?_ ?_ ?_
 ·rintro k F h hk p34 p33 ⟨p0, p32, rfl, p5⟩
  obtain ⟨m, hm1, hm⟩ := Aq (hx _ ((hXm _).1 (Au (d := 0) hk)).1)
  have hT : Eh p s0 ((AK X).take (k + 1)) = if p m = true then Eh p s0 ((AK X).take k) ||| CX m else Eh p s0 ((AK X).take k) := by rw [Pw hk, hm1]
  have hp : p m = (decide ((t.at m).kind = 4) && LU (t.at m)) := by simp only [p, Int.toNat_natCast]
  have hbar := fun (Q : VV → Prop) => Pi C t x f hm (g := NY) (p := LU (t.at m)) (fun Q => Q0 C (t.at m)) (Q := Q)
  rw [hT, hp]
  cases c1 : (decide ((t.at m).kind = 4) && LU (t.at m)) with
  | false => simp only [Kt, go_sem, ↓reduceIte, p34, p33, p0, p32, p5, Ay hk, hk, hm1, hbar, c1, A0, Bool.false_eq_true]
  | true => simp only [Kt, go_sem, ↓reduceIte, p34, p33, p0, p32, p5, Ay hk, hk, hm1, hbar, c1, A0, CT C]
 ·rintro F h ⟨p0, p32, rfl, p5⟩
  simp only [Kt, go_sem, ↓reduceIte, p0, p32, p5, List.take_length, hfin]
 ·simp only [Kt, go_sem, ↓reduceIte]
 ·simp only [Kt, go_sem, ↓reduceIte]
 ·simp only [Kt, go_sem, ↓reduceIte]
  rfl)
theorem A7L {t : A4} (ht : Aj t) {x f : List Int} (hF : DR t x f) {w0 : Int} (hw0 : w0 ∈ x) {i : Nat} (hoff : ∀ j, j < i → LJ t (Jc t x f j w0) = false) : CI t (J9 t x f w0 i) := by
 intro v hv
 obtain ⟨j, hj, rfl⟩ := NT.1 hv
 rcases L9 ht hF hw0 j (fun k hk => hoff k (by omega)) with e | e
 ·have := hoff j hj
  rw [e] at this; cases this
 ·exact hF.node _ e
set_option maxHeartbeats 4000000 in
theorem SR (t : A4) (ht : Aj t) (x f : List Int) (hF : DR t x f) {w0 : Int} (hw0 : w0 ∈ x) : VP V Ph [RS t x f, .i .i64 w0] Q ↔ Q (vW (Cd t x f w0)) := by
 refine Aa ?_
 rw [A8 C.c_z74.1 C.c_z74.2]
 have h64 := ht.n64
 simp only [A6o, HO, go_sem, ↓reduceIte]
 unfold VL
 rw [A0]
 refine AI (M := Nat) (I := fun i F h => h = [] ∧ A3.tmp F 0 = RS t x f ∧ A3.tmp F 1 = .i .i64 (Jc t x f i w0) ∧ A3.tmp F 5 = vW (Qn t x f w0 i) ∧ A3.tmp F 6 = vW (D6 (J9 t x f w0 i)) ∧ (∀ j, j < i → LJ t (Jc t x f j w0) = false) ∧ (J9 t x f w0 i).Nodup) (μ := fun i => x.length + 1 - i) ?_ 0 _ _ ⟨rfl, ?_, ?_, ?_, ?_, by omega, by simp [J9]⟩
 ·rintro i F h ⟨rfl, p0, p1, p5, p6, hoff, hnd⟩
  have hil : i ≤ x.length := by
   have h1 : (J9 t x f w0 i).length = i := by simp [J9]
   rw [← h1]
   refine Ln _ _ hnd fun v hv => ?_
   obtain ⟨j, hj, rfl⟩ := NT.1 hv
   rcases L9 ht hF hw0 j (fun k hk => hoff k (by omega)) with e | e
   ·have := hoff j hj
    rw [e] at this; cases this
   ·exact e
  have hend := A8X ht hF hw0 hoff hnd
  rcases L9 ht hF hw0 i hoff with e | e
  ·have := hend (.inl (by rw [e]; rfl))
   rw [e] at p1
   simp only [NZ, HO, go_sem, ↓reduceIte, p0, p1, p5, p6, A0, this]
  ·obtain ⟨m, hm1, hm⟩ := Aq (hF.node _ e)
   rw [hm1] at p1
   cases c1 : decide (0 ≤ (t.at m).thread) with
   | false =>
    have ho : LJ t (Jc t x f i w0) = true := by
     have := of_decide_eq_false c1
     rw [hm1, LJ, Int.toNat_natCast, decide_eq_true (show (t.at m).thread < 0 by omega), Bool.or_true]
    have := hend (.inl ho)
    simp only [NZ, HO, go_sem, ↓reduceIte, p0, p1, p5, p6, A0, GD C t x f hm, c1, this]
   | true =>
    have ho : LJ t (Jc t x f i w0) = false := by
     have := of_decide_eq_true c1
     rw [hm1, LJ, Int.toNat_natCast, decide_eq_false (show ¬ (t.at m).thread < 0 by omega), decide_eq_false (show ¬ (m : Int) < 0 by omega)]; rfl
    have hway := A7L C ht hF hw0 hoff
    have hh := hway.has h64 (m : Int)
    cases c2 : BB (J9 t x f w0 i) (m : Int) with
    | true =>
     rw [c2] at hh
     have := hend (.inr (by rw [hm1]; exact Ag.1 c2))
     simp only [NZ, HO, go_sem, ↓reduceIte, p0, p1, p5, p6, A0, GD C t x f hm, c1, AQ C, hh, this]
    | false =>
     rw [c2] at hh
     simp only [NZ, HO, go_sem, ↓reduceIte, p0, p1, p5, p6, A0, GD C t x f hm, c1, AQ C, hh, ZQ C t ht x f hF.node hm, CT C, Tq C t ht x f hF.node hm]
     refine ⟨i + 1, by omega, by rw [Jc, hm1], by rw [ZO, hm1], by rw [R9, hm1, D6, D6, List.foldl_append]; rfl, fun j hj => ?_, ?_⟩
     ·rcases Nat.lt_or_ge j i with h1 | h1
      ·exact hoff j h1
      ·rw [show j = i by omega]; exact ho
     ·rw [R9, hm1]
      have : (m : Int) ∉ J9 t x f w0 i := fun h => by rw [Ag.2 h] at c2; cases c2
      exact List.nodup_append.2 ⟨hnd, by simp, fun a ha b hb e => this (by simp at hb; rw [← hb, ← e]; exact ha)⟩
 ·simp only [HO, go_sem, ↓reduceIte]
 ·simp only [HO, go_sem, ↓reduceIte]
  rfl
 ·simp only [HO, go_sem, ↓reduceIte]
  rfl
 ·simp only [HO, go_sem, ↓reduceIte]
  rfl
end
end Go.AM

namespace Go.AM
open Go Go.Proofs
theorem Ajr : min 5 (4 + 3) + (1 + (4 + 3 - 6)) = 7 := rfl
theorem TY (t : A4) (x : List Int) (k : Nat) : Cc t x k = (!(decide (x.getD k 0 < 0) || decide ((t.nodes.length : Int) ≤ x.getD k 0) || (!decide (k = 0) && decide (x.getD k 0 ≤ x.getD (k - 1) 0)))) := by
 unfold Cc Ch CS
 rw [Bool.eq_iff_iff]
 simp only [Bool.and_eq_true, Bool.or_eq_true, Bool.not_eq_true', Bool.or_eq_false_iff, decide_eq_true_eq, decide_eq_false_iff_not, Bool.and_eq_false_iff, Bool.not_eq_false']
 constructor
 ·rintro ⟨⟨a, b⟩, c⟩
  exact ⟨⟨by omega, by omega⟩, c.imp id (by omega)⟩
 ·rintro ⟨⟨a, b⟩, c⟩
  exact ⟨⟨by omega, by omega⟩, c.imp id (by omega)⟩
def onH (t : A4) (x f : List Int) (k : Nat) : VH := [some ⟨AS, 1, 0, false, (UR t x f k).map eI⟩, some ⟨N3, 0, 0, false, [[.i .i64 t.vals, lS t.locs, .ls (t.regs.map HU), .ls (t.nodes.map eN), vW (D6 x), .sl 0 0 0 t.nodes.length, lW (Bc t.nodes.length fun a b => Bo t a b)]]⟩]
def A4l (t : A4) (x f : List Int) : VH := [some ⟨AS, 1, 0, false, (onL t x f).map eI⟩, some ⟨N3, 0, 0, false, [[.i .i64 t.vals, lS t.locs, .ls (t.regs.map HU), .ls (t.nodes.map eN), vW (D6 x), .sl 0 0 0 t.nodes.length, lW (Bc t.nodes.length fun a b => Bo t a b)]]⟩]
theorem A96 (t : A4) (x f : List Int) : onH t x f x.length = A4l t x f := by rw [onH, A8N]; rfl
theorem A29 {t : A4} {x f : List Int} {k m : Nat} (h : m < t.nodes.length) : (UR t x f k)[m]? = some (Jk (x.take k) f (m : Int)) := by simp [UR, h]
theorem Qi (t : A4) (x f : List Int) : (onL t x f).take t.nodes.length = onL t x f := List.take_of_length_le (by rw [NM]; omega)
section
variable {V : Ao} (C : AL V) {Q : VV → Prop}
include C
set_option maxHeartbeats 8000000 in
theorem A3I (t : A4) (ht : Aj t) (x f : List Int) (hF : DR t x f) : VP V A0i [RS t x f, .f Ph [RS t x f] [], .f Pr [RS t x f] []] Q ↔ Q (lW (Bc t.nodes.length (swB t x f))) := by
 refine Aa ?_
 rw [A8 C.c_z73.1 C.c_z73.2]
 have h64 := ht.n64
 have hx := hF.node
 have hll := Du (D6 x)
 have hLm := fun y => hx.list h64 y
 simp only [A5j, Ew, go_sem, ↓reduceIte, ZH C _ h64, Do C]
 refine Ah (by decide) (AK (D6 x)).length (by omega) (I := fun k F h => A3.tmp F 0 = RS t x f ∧ A3.tmp F 1 = .f Ph [RS t x f] [] ∧ A3.tmp F 2 = .f Pr [RS t x f] [] ∧ A3.tmp F 7 = .sl 0 0 0 t.nodes.length ∧ A3.tmp F 24 = lI (AK (D6 x)) ∧ h = [some ⟨Co, 1, 0, false, (Bc t.nodes.length (XH t x f ((AK (D6 x)).take k))).map eW⟩]) ?_ ?_ 0 _ _ (by omega) ?_ ?_ ?_
 ·rintro k F h hk p26 p25 ⟨p0, p1, p2, p7, p24, rfl⟩
  have hkm : (AK (D6 x)).getD k 0 ∈ x := (hLm _).1 (Au (d := 0) hk)
  obtain ⟨r, hr1, hr⟩ := Aq (hx _ hkm)
  have hrx : (r : Int) ∈ x := by rw [← hr1]; exact hkm
  have hnext : ∀ a b, XH t x f ((AK (D6 x)).take (k + 1)) a b = (XH t x f ((AK (D6 x)).take k) a b || (Nr t x f r && Ck (Cd t x f (Jk x f r)) (a : Int) && HK t x r b)) := fun a b => by rw [A4g hk, hr1]
  have same : Nr t x f r = false → Bc t.nodes.length (XH t x f ((AK (D6 x)).take k)) = Bc t.nodes.length (XH t x f ((AK (D6 x)).take (k + 1))) := fun e => DV fun a b _ _ => by rw [hnext, e]; simp
  have hsaw : Nr t x f r = (decide ((t.at r).kind = 2) && !decide ((t.at (Jk x f r).toNat).thread = (t.at r).thread)) := by rw [Nr, Int.toNat_natCast]
  by_cases ck : (t.at r).kind = 2
  ·obtain ⟨o1, o2, o3⟩ := hF.read _ hrx (by rw [Int.toNat_natCast]; exact ck)
   obtain ⟨w, hw1, hw⟩ := Aq (hx _ o1)
   rw [hw1] at o1
   have d0 : decide ((w : Int) < 0) = false := decide_eq_false (by omega)
   cases c2 : decide ((t.at w).thread = (t.at r).thread) with
   | true =>
    have hs := same (by rw [hsaw, hw1, Int.toNat_natCast, c2]; simp)
    simp only [Ew, go_sem, ↓reduceIte, p26, p25, p0, p1, p2, p7, p24, Ay hk, hk, hr1, HH hr, hw1, d0, A6 hw, A6 hr, c2, A0, hs]
   | false =>
    have hs : Nr t x f r = true := by rw [hsaw, hw1, Int.toNat_natCast, c2, decide_eq_true ck]; rfl
    have hh := fun (Q : VV → Prop) => SR C t ht x f hF o1 (Q := Q)
    simp only [Ew, go_sem, ↓reduceIte, p26, p25, p0, p1, p2, p7, p24, Ay hk, hk, hr1, HH hr, hw1, d0, A6 hw, A6 hr, c2, A0, hh, Do C]
    have hlh := Du (Cd t x f w)
    have hends := fun (Q : VV → Prop) => WM C t ht x f hx hr (Q := Q)
    let M := fun (j : Nat) (a b : Nat) => XH t x f ((AK (D6 x)).take k) a b || (BB ((AK (Cd t x f w)).take j) (a : Int) && HK t x r b)
    refine Ah (by decide) (AK (Cd t x f w)).length (by omega) (I := fun j F h => A3.tmp F 26 = .i .i64 k ∧ A3.tmp F 25 = .i .i64 (AK (D6 x)).length ∧ A3.tmp F 0 = RS t x f ∧ A3.tmp F 1 = .f Ph [RS t x f] [] ∧ A3.tmp F 2 = .f Pr [RS t x f] [] ∧ A3.tmp F 7 = .sl 0 0 0 t.nodes.length ∧ A3.tmp F 24 = lI (AK (D6 x)) ∧ A3.tmp F 9 = .i .i64 r ∧ A3.tmp F 63 = lI (AK (Cd t x f w)) ∧ h = [some ⟨Co, 1, 0, false, (Bc t.nodes.length (M j)).map eW⟩]) ?_ ?_ 0 _ _ (by omega) ?_ ?_ ?_
    ·rintro j F h hj q65 q64 ⟨q26, q25, q0, q1, q2, q7, q24, q9, q63, rfl⟩
     have hmem := (DW (s := Cd t x f w)).1 (Au (d := 0) hj)
     obtain ⟨a0, _⟩ := Hi hmem
     obtain ⟨a, ha1⟩ := Int.eq_ofNat_of_zero_le a0
     have ha : a < t.nodes.length := Zu ht hF o1 (by rw [ha1, B7] at hmem; exact hmem)
     have hset := A32 ha (M j) (HK t x r) fun b hb => A2K hx hrx hb
     have hM : Bc t.nodes.length (fun i b => M j i b || (decide (i = a) && HK t x r b)) = Bc t.nodes.length (M (j + 1)) := DV fun i b _ _ => by
      simp only [M]
      rw [List.take_succ_eq_append_getElem hj]
      have e : BB ((AK (Cd t x f w)).take j ++ [(AK (Cd t x f w))[j]]) (i : Int) = (BB ((AK (Cd t x f w)).take j) (i : Int) || decide (i = a)) := by
       rw [List.getD_eq_getElem?_getD, List.getElem?_eq_getElem hj, Option.getD_some] at ha1
       rw [ha1, Bool.eq_iff_iff, Ag, List.mem_append, Bool.or_eq_true, Ag, decide_eq_true_eq, List.mem_singleton]
       exact ⟨fun h => h.imp id fun h => by omega, fun h => h.imp id fun h => by omega⟩
      rw [e]
      cases XH t x f ((AK (D6 x)).take k) i b <;> cases BB ((AK (Cd t x f w)).take j) (i : Int) <;> cases decide (i = a) <;> cases HK t x r b <;> rfl
     rw [hM] at hset
     simp only [Ew, go_sem, ↓reduceIte, q65, q64, q26, q25, q0, q1, q2, q7, q24, q9, q63, Ay hj, hj, ha1, EO ha, hends, A0, hset, Cx, ha]
    ·rintro F h ⟨q26, q25, q0, q1, q2, q7, q24, q9, q63, rfl⟩
     have hM : Bc t.nodes.length (M (AK (Cd t x f w)).length) = Bc t.nodes.length (XH t x f ((AK (D6 x)).take (k + 1))) := DV fun a b _ _ => by
      simp only [M]
      rw [List.take_length, hnext, hs, hw1, Bool.true_and]
      have e : BB (AK (Cd t x f w)) (a : Int) = Ck (Cd t x f w) (a : Int) := by rw [Bool.eq_iff_iff, Ag, DW]
      rw [e]
     simp only [Ew, go_sem, ↓reduceIte, q26, q25, q0, q1, q2, q7, q24, hM]
    ·simp only [Ew, go_sem, ↓reduceIte]
    ·simp only [Ew, go_sem, ↓reduceIte]
    ·simp only [Ew, go_sem, ↓reduceIte, p26, p25, p0, p1, p2, p7, p24]
     have hM : Bc t.nodes.length (M 0) = Bc t.nodes.length (XH t x f ((AK (D6 x)).take k)) := DV fun a b _ _ => by simp only [M, List.take_zero, BB, List.any_nil, Bool.false_and, Bool.or_false]
     rw [hM]
  ·have o1 := hF.none _ hrx (by rw [Int.toNat_natCast]; exact ck)
   have hs := same (by rw [hsaw, decide_eq_false ck]; rfl)
   simp only [Ew, go_sem, ↓reduceIte, p26, p25, p0, p1, p2, p7, p24, Ay hk, hk, hr1, HH hr, o1, A0]
   rw [hs]
 ·rintro F h ⟨p0, p1, p2, p7, p24, rfl⟩
  have e : Bc t.nodes.length (XH t x f (AK (D6 x))) = Bc t.nodes.length (swB t x f) := DV fun a b _ _ => A8J hLm a b
  simp only [Ew, go_sem, ↓reduceIte, p0, p1, p2, p7, p24, Cx]
  rw [List.take_of_length_le (by rw [Cx]; omega), e]
 ·simp only [Ew, go_sem, ↓reduceIte]
 ·simp only [Ew, go_sem, ↓reduceIte]
 ·simp only [Ew, go_sem, ↓reduceIte]
  rw [← A2G]; rfl
set_option maxHeartbeats 8000000 in
theorem A2t (t : A4) (ht : Aj t) (x f : List Int) (hl : x.length ≤ 1000) (hlf : f.length ≤ 1000) : VP V A2l [vT t, lI x, lI f] Q ↔ Q (if EZ t x f = true then .tu [RS t x f, .b true] else .tu [.np, .b false]) := by
 refine Aa ?_
 rw [A8 C.c_z69.1 C.c_z69.2]
 have h64 := ht.n64
 have hn1 : 0 < t.nodes.length := by
  obtain ⟨s, h0, he, hs⟩ := ht.thr
  have h1 := ht.r1
  obtain ⟨_, n, hB⟩ := hs 0 (by omega)
  cases n with
  | zero => exact absurd hB (by simp [KC])
  | succ n => have := hB.1.1; omega
 have hmay := fun (Q : VV → Prop) => Mt C t ht (Q := Q)
 have hpo := fun (Q : VV → Prop) => A2L C t ht (Q := Q)
 by_cases c1 : x.length = f.length
 ·have c1' : decide ((f.length : Int) = (x.length : Int)) = true := decide_eq_true (by omega)
  simp only [A0h, Dt, go_sem, ↓reduceIte, hmay, c1', M3 C x (by omega), M9 C _ h64 hn1, hpo, AfM, Ajr]
  refine Ah (by decide) x.length (by omega) (I := fun k F h => A3.tmp F 1 = lI x ∧ A3.tmp F 2 = lI f ∧ A3.tmp F 3 = .fp (eT t) 0 ∧ A3.tmp F 8 = .p 1 0 0 0 ∧ A3.tmp F 35 = lI x ∧ h = onH t x f k ∧ ∀ j, j < k → Cc t x j = true) ?_ ?_ 0 _ _ (by omega) ?_ ?_ ?_
  ·rintro k F h hk p37 p36 ⟨p1, p2, p3, p8, p35, rfl, pr⟩
   have hkf : k < f.length := by omega
   have bad : Cc t x k = false → EZ t x f = false := fun h => by rw [EZ, Bj hk h]; simp
   have hnr := TY t x k
   cases d1 : decide (x.getD k 0 < 0) with
   | true =>
    have e := bad (by rw [hnr, d1]; rfl)
    simp only [Dt, go_sem, ↓reduceIte, p37, p36, p1, p2, p3, p8, p35, Ay hk, hk, d1, A0, e]
   | false =>
   cases d2 : decide ((t.nodes.length : Int) ≤ x.getD k 0) with
   | true =>
    have e := bad (by rw [hnr, d1, d2]; rfl)
    simp only [Dt, go_sem, ↓reduceIte, p37, p36, p1, p2, p3, p8, p35, Ay hk, hk, d1, d2, A0, e]
   | false =>
   have d1' := of_decide_eq_false d1
   have d2' := of_decide_eq_false d2
   obtain ⟨m, hm1⟩ := Int.eq_ofNat_of_zero_le (show 0 ≤ x.getD k 0 by omega)
   have hm : m < t.nodes.length := by omega
   have d2n : decide (t.nodes.length ≤ m) = false := decide_eq_false (by omega)
   have hset : (∀ i, i ≤ k → CS x i = true) → _ := A8V (t := t) (f := f) hk hm1 hm
   have hris0 : ∀ i, i < k → CS x i = true := fun i hi => by have := pr i hi; simp only [Cc, Bool.and_eq_true] at this; exact this.2
   have hgo : Cc t x k = true → ∀ j, j < k + 1 → Cc t x j = true := fun h j hj => by
    rcases Nat.lt_or_ge j k with c | c
    ·exact pr j c
    ·rw [show j = k by omega]; exact h
   by_cases z : k = 0
   ·subst z
    have hok : Cc t x 0 = true := by rw [hnr, d1, d2]; rfl
    have hs := hset fun i hi => by rw [Nat.le_zero.1 hi]; rfl
    rw [hm1] at d1 d2
    simp only [Dt, go_sem, ↓reduceIte, p37, p36, p1, p2, p3, p8, p35, Ay hk, Ay hkf, hk, hkf, d1, d2n, A0, hm1, onH, hm, A0w, dz0, hs, A29 hm]
    exact hgo hok
   ·have z0 : decide ((0 : Int) < (k : Int)) = true := decide_eq_true (by omega)
    have hk1 : k - 1 < x.length := by omega
    have zw := EU (show 0 < k by omega) (by omega)
    cases d3 : decide (x.getD k 0 ≤ x.getD (k - 1) 0) with
    | true =>
     have e := bad (by rw [hnr, d1, d2, d3, decide_eq_false z]; rfl)
     rw [hm1] at d1 d2 d3
     simp only [Dt, go_sem, ↓reduceIte, p37, p36, p1, p2, p3, p8, p35, Ay hk, Ay hk1, hk, d1, d2n, d3, z0, zw, A0, hm1, e]
    | false =>
     have hok : Cc t x k = true := by rw [hnr, d1, d2, d3]; simp
     have hs := hset fun i hi => by
      rcases Nat.lt_or_ge i k with c | c
      ·exact hris0 i c
      ·rw [show i = k by omega]; simp only [Cc, Bool.and_eq_true] at hok; exact hok.2
     rw [hm1] at d1 d2 d3
     simp only [Dt, go_sem, ↓reduceIte, p37, p36, p1, p2, p3, p8, p35, Ay hk, Ay hk1, Ay hkf, hk, hkf, d1, d2n, d3, z0, zw, A0, hm1, onH, hm, A0w, hs, A29 hm]
     exact hgo hok
  ·rintro F h ⟨p1, p2, p3, p8, p35, rfl, pr⟩
   rw [A96]
   have hnode : CI t x := by
    intro n hn
    obtain ⟨i, hi, rfl⟩ := List.getElem_of_mem hn
    have := pr i hi
    simp only [Cc, Bool.and_eq_true] at this
    have h2 := this.1
    rwa [List.getD_eq_getElem?_getD, List.getElem?_eq_getElem hi] at h2
   simp only [Dt, go_sem, ↓reduceIte, p1, p2, p3, p8, p35]
   refine Ah (by decide) x.length (by omega) (I := fun k F h => A3.tmp F 8 = .p 1 0 0 0 ∧ A3.tmp F 75 = lI x ∧ h = A4l t x f ∧ ∀ j, j < k → Ht t x f (x.getD j 0) = true) ?_ ?_ 0 _ _ (by omega) ?_ ?_ ?_
   ·rintro k F h hk p77 p76 ⟨p8, p75, rfl, qr⟩
    have bad : Ht t x f (x.getD k 0) = false → EZ t x f = false := fun h => by rw [V0, Bj (p := fun i => Ht t x f (x.getD i 0)) hk h, Bool.and_false]
    obtain ⟨m, hm1, hm⟩ := Aq (hnode _ (Au (d := 0) hk))
    have hr := fun (Q : VV → Prop) => Uq C t ht x f hnode hm (Q := Q)
    cases c2 : Ht t x f m with
    | true =>
     simp only [Dt, go_sem, ↓reduceIte, p77, p76, p8, p75, Ay hk, hk, hm1, A4l, hr, c2, A0, NM, Qi]
     intro j hj
     rcases Nat.lt_or_ge j k with c | c
     ·exact qr j c
     ·rw [show j = k by omega, hm1]; exact c2
    | false =>
     have e := bad (by rw [hm1]; exact c2)
     simp only [Dt, go_sem, ↓reduceIte, p77, p76, p8, p75, Ay hk, hk, hm1, A4l, hr, c2, A0, NM, Qi, e]
   ·rintro F h ⟨p8, p75, rfl, qr⟩
    have e : EZ t x f = true := by rw [V0, decide_eq_true c1, Bk pr, Bk qr]; rfl
    simp only [Dt, go_sem, ↓reduceIte, p8, p75, A4l, e, NM, Qi]
   ·simp only [Dt, go_sem, ↓reduceIte]
   ·simp only [Dt, go_sem, ↓reduceIte]
   ·simp only [Dt, go_sem, ↓reduceIte, p8]
    intro j hj; omega
  ·simp only [Dt, go_sem, ↓reduceIte]
  ·simp only [Dt, go_sem, ↓reduceIte]
  ·simp only [Dt, go_sem, ↓reduceIte, onH, A5l]
   intro j hj; omega
 ·have c1' : decide ((f.length : Int) = (x.length : Int)) = false := decide_eq_false (by omega)
  have e : EZ t x f = false := by rw [EZ, decide_eq_false c1]; rfl
  simp only [A0h, Dt, go_sem, ↓reduceIte, hmay, c1', e]
theorem A2B (t : A4) (ht : Aj t) (x f : List Int) (hl : x.length ≤ 1000) (hlf : f.length ≤ 1000) : VP V W4 [vT t, lI x, lI f] Q ↔ Q (lW (hbF t x f)) := by
 refine Aa ?_
 rw [A8 C.c_z26.1 C.c_z26.2]
 have h64 := ht.n64
 have hof := fun (Q : VV → Prop) => A2t C t ht x f hl hlf (Q := Q)
 cases c : EZ t x f with
 | false =>
  rw [hbF, c]
  simp only [A1g, V9, go_sem, ↓reduceIte, hof, c, Bool.false_eq_true]
 | true =>
  have hF := LX c
  rw [hbF, c]
  have hsw := fun (Q : VV → Prop) => A3I C t ht x f hF (Q := Q)
  simp only [A1g, V9, go_sem, ↓reduceIte, hof, c, hsw, Yx C, A6i C, UI C]
  rw [Z7 h64, A4r h64, hbM]
  congr 2
  apply DV
  intro a b _ _
  rw [hF.node.has h64, hF.node.has h64]
  rfl
end
end Go.AM

namespace Go.AM
open Go Go.Proofs
section
variable {V : Ao} (C : AL V) {Q : VV → Prop}
include C
end
end Go.AM

namespace Go.AM
open Go Go.Proofs
section
variable {V : Ao} (C : AL V) {Q : VV → VH → Prop}
include C
end
end Go.AM

namespace Go.AM
open Go Go.Proofs
abbrev X8 (n : Ax) (p : Int) : List VV := [.i .i64 n.thread, .i .i64 n.up, .i .i64 n.kind, .i .i64 n.loc, .i .i64 n.mode, .i .i64 n.val, .b n.rmw, .b n.fin, lI n.regs, .i .i64 p]
section
variable {V : Ao} (C : AL V) {Q : VV → Prop}
include C
theorem QF (n : Ax) (p : Int) : VP V A1Y [.ag (X8 n p)] Q ↔ Q (.b (decide (n.kind = 2) || decide (n.kind = 3))) := by
 refine Aa ?_
 rw [A8 C.c_z30.1 C.c_z30.2]
 cases c : decide (n.kind = 2) <;> simp only [A6v, A1n, go_sem, ↓reduceIte, c, Bool.true_or, Bool.false_or]
theorem Ux (a b : Ax) (p q : Int) : VP V A1o [.ag (X8 a p), .ag (X8 b q)] Q ↔ Q (.b (decide (p < q))) := by
 refine Aa ?_
 rw [A8 C.c_z31.1 C.c_z31.2]
 simp only [A6s, A2c, go_sem, ↓reduceIte]
theorem Vm (a b : Ax) (p q : Int) : VP V A14 [.ag (X8 a p), .ag (X8 b q)] Q ↔ Q (.b (decide (p ≤ q))) := by
 refine Aa ?_
 rw [A8 C.c_z32.1 C.c_z32.2]
 simp only [A5f, A1A, go_sem, ↓reduceIte]
theorem N8 (a b : Ax) (pa pb : Int) : VP V A9p [vN a, vN b, .i .i64 pa, .i .i64 pb] Q ↔ Q (.b (Jf a b pa pb)) := by
 refine Aa ?_
 rw [A8 C.c_z5.1 C.c_z5.2]
 have a1 := fun (n : Ax) (p : Int) (Q : VV → Prop) => QF C n p (Q := Q)
 have hpf : Jf a b pa pb = ((!(decide (a.kind = 2) || decide (a.kind = 3)) || !(decide (b.kind = 2) || decide (b.kind = 3)) || !decide (a.loc = b.loc)) || (bif decide (b.kind = 2) then decide (pa ≤ pb) else decide (pa < pb))) := by
  unfold Jf
  by_cases c : b.kind = 2 <;> simp [c]
 rw [hpf]
 cases c1 : (decide (a.kind = 2) || decide (a.kind = 3)) with
 | false =>
  simp only [Z4, WN, go_sem, ↓reduceIte, a1, c1, Bool.not_false, Bool.true_or]
 | true =>
 cases c2 : (decide (b.kind = 2) || decide (b.kind = 3)) with
 | false =>
  simp only [Z4, WN, go_sem, ↓reduceIte, a1, c1, c2, Bool.not_false, Bool.true_or, Bool.not_true, Bool.false_or]
 | true =>
 cases c3 : decide (a.loc = b.loc) with
 | false =>
  simp only [Z4, WN, go_sem, ↓reduceIte, a1, c1, c2, c3, Bool.not_false, Bool.true_or, Bool.not_true, Bool.false_or]
 | true =>
 cases c4 : decide (b.kind = 2) with
 | false =>
  have c5 : decide (b.kind = 3) = true := by rw [c4] at c2; simpa using c2
  simp only [Z4, WN, go_sem, ↓reduceIte, a1, c1, c2, c3, c4, c5, Ux C, Bool.not_true, Bool.false_or, cond_false]
 | true =>
  simp only [Z4, WN, go_sem, ↓reduceIte, a1, c1, c2, c3, c4, Vm C, Bool.not_true, Bool.false_or, cond_true]
theorem QB (t : A4) (s : A9) (hs : Kp s) {n : Nat} (hn : n < t.nodes.length) : VP V Vu [.i .i64 n, .fp (eT t) 0, .fp (UQ s) 0] Q ↔ Q (.i .i64 (plN t s n)) := by
 refine Aa ?_
 rw [A8 C.c_z27.1 C.c_z27.2]
 unfold plN
 rw [Int.toNat_natCast]
 cases c : decide ((t.at n).kind = 2) with
 | false =>
  rw [if_neg (of_decide_eq_false c)]
  simp only [A23, W6, go_sem, ↓reduceIte, A6 hn, c, Kl C s hs]
 | true =>
  rw [if_pos (of_decide_eq_true c)]
  simp only [A23, W6, go_sem, ↓reduceIte, A6 hn, c, XC C s hs, Kl C s hs]
set_option maxHeartbeats 4000000 in
theorem TA (P : Nat → Prop) (t : A4) (ht : Aj t) (r : Rows) (hr : ∀ x ∈ Ce r, ∃ a b : Nat, a < t.nodes.length ∧ b < t.nodes.length ∧ P a ∧ P b ∧ x = ((a : Int), (b : Int))) (hl : (Ce r).length ≤ 5000) {g : Nat} {c : List VV} (hc : Fz c) (pl : Int → Int)
  (hg : ∀ (n : Nat), n < t.nodes.length → P n → ∀ Q : VV → Prop, VP V g ([VV.i .i64 n] ++ c) Q ↔ Q (.i .i64 (pl n))) :
  VP V X5 [vT t, lW r, .f g [] c] Q ↔ Q (.b ((Ce r).all fun x => Jf (t.at x.1.toNat) (t.at x.2.toNat) (pl x.1) (pl x.2))) := by
 refine Aa ?_
 rw [A8 C.c_z25.1 C.c_z25.2]
 have hbel : Cm 0 c = true := Hg (hc [] 5) (fun v e => A1U e)
 have hfz8 : ∀ h, AR (frz h 8) c = some (c, []) := fun h => hc h 5
 have hfz : ∀ h, AR (frz h 7) c = some (c, []) := fun h => hc h 4
 simp only [A4Y, Km, go_sem, ↓reduceIte, Wf C, hfz]
 refine Ah (by decide) (Ce r).length (by omega) (I := fun k F h => A3.tmp F 2 = .f g [] c ∧ A3.tmp F 3 = .fp (eT t) 0 ∧ A3.tmp F 10 = lP (Ce r) ∧ h = [] ∧ ∀ x ∈ (Ce r).take k, Jf (t.at x.1.toNat) (t.at x.2.toNat) (pl x.1) (pl x.2) = true) ?_ ?_ 0 _ _ (by omega) ?_ ?_ ?_
 ·rintro k F h hk p12 p11 ⟨p2, p3, p10, rfl, pr⟩
  obtain ⟨a, b, ha, hb, hpa, hpb, e⟩ := hr _ (List.getElem_mem hk)
  have BU : (Ce r)[k]? = some ((a : Int), (b : Int)) := by rw [List.getElem?_eq_getElem hk, e]
  have ga := fun (Q : VV → Prop) => hg a ha hpa Q
  have gb := fun (Q : VV → Prop) => hg b hb hpb Q
  simp only [List.cons_append, List.nil_append] at ga gb
  cases c1 : Jf (t.at a) (t.at b) (pl a) (pl b) with
  | true =>
   simp only [Km, go_sem, ↓reduceIte, p12, p11, p2, p3, p10, BU, hk, A6 ha, A6 hb, ga, gb, N8 C, c1, A0, hfz, hfz8, hbel]
   intro x hx
   rw [List.take_succ_eq_append_getElem hk] at hx
   rcases List.mem_append.1 hx with hx | hx
   ·exact pr x hx
   ·rw [List.mem_singleton.1 hx, e]; exact c1
  | false =>
   have e : ((Ce r).all fun x => Jf (t.at x.1.toNat) (t.at x.2.toNat) (pl x.1) (pl x.2)) = false := by
    rw [List.all_eq_false]
    exact ⟨_, List.getElem_mem hk, by rw [e, Int.toNat_natCast, Int.toNat_natCast, c1]; simp⟩
   simp only [Km, go_sem, ↓reduceIte, p12, p11, p2, p3, p10, BU, hk, A6 ha, A6 hb, ga, gb, N8 C, c1, A0, e, hfz, hfz8]
 ·rintro F h ⟨p2, p3, p10, rfl, pr⟩
  rw [List.take_length] at pr
  have e : ((Ce r).all fun x => Jf (t.at x.1.toNat) (t.at x.2.toNat) (pl x.1) (pl x.2)) = true := by rw [List.all_eq_true]; exact pr
  simp only [Km, go_sem, ↓reduceIte, p2, p3, p10, e]
 ·simp only [Km, go_sem, ↓reduceIte]
 ·simp only [Km, go_sem, ↓reduceIte]
 ·simp only [Km, go_sem, ↓reduceIte]
theorem Th (t : A4) (ht : Aj t) (r : Rows) (hr : ∀ x ∈ Ce r, ∃ a b : Nat, a < t.nodes.length ∧ b < t.nodes.length ∧ x = ((a : Int), (b : Int))) (hl : (Ce r).length ≤ 5000) {g : Nat} {c : List VV} (hc : Fz c) (pl : Int → Int)
  (hg : ∀ (n : Nat), n < t.nodes.length → ∀ Q : VV → Prop, VP V g ([VV.i .i64 n] ++ c) Q ↔ Q (.i .i64 (pl n))) :
  VP V X5 [vT t, lW r, .f g [] c] Q ↔ Q (.b ((Ce r).all fun x => Jf (t.at x.1.toNat) (t.at x.2.toNat) (pl x.1) (pl x.2))) :=
 TA C (fun _ => True) t ht r (fun x hx => by obtain ⟨a, b, h1, h2, e⟩ := hr x hx; exact ⟨a, b, h1, h2, trivial, trivial, e⟩) hl hc pl (fun n hn _ Q => hg n hn Q)
theorem HD (t : A4) (ht : Aj t) (s : A9) (hs : Kp s) : VP V A7S [vT t, Lc s] Q ↔ Q (.b (QG t s)) := by
 refine Aa ?_
 rw [A8 C.c_z4.1 C.c_z4.2]
 have h64 := ht.n64
 have hmay := fun (Q : VV → Prop) => Wv C t ht s hs (Q := Q)
 rw [Ab7 t ht s] at hmay
 unfold QG
 cases hf : Bq t s with
 | false => simp only [A89, A5O, go_sem, ↓reduceIte, hmay, hf, Bool.false_and]
 | true =>
  have hfr := Mc hf
  have hF := LX hfr
  have hhb := fun (Q : VV → Prop) => A2B C t ht s.has s.jf hs.has hs.jf (Q := Q)
  rw [hbF, if_pos hfr] at hhb
  have hpl : (Ce (hbM t s.has s.jf)).length ≤ 5000 := by
   have := RO (hbM t s.has s.jf) (hbM t s.has s.jf).length
   rw [Ce]
   have hl : (hbM t s.has s.jf).length = t.nodes.length := Jp h64 _
   split
   ·rw [hl] at this ⊢; omega
   ·simp
  have hin : ∀ x ∈ Ce (hbM t s.has s.jf), ∃ a b : Nat, a < t.nodes.length ∧ b < t.nodes.length ∧ x = ((a : Int), (b : Int)) := fun x hx => by
   obtain ⟨a, b, ha, e, hp⟩ := (M7 h64 _ _).1 hx
   exact ⟨a, b, ha, hp.lt, e⟩
  have hpr := fun (Q : VV → Prop) => Th C t ht (hbM t s.has s.jf) hin hpl (g := Vu) (c := [.fp (eT t) 0, .fp (UQ s) 0]) (fun _ _ => rfl) (plN t s) (fun n hn Q => QB C t s hs hn (Q := Q)) (Q := Q)
  simp only [A89, A5O, go_sem, ↓reduceIte, hmay, hf, hhb, hpr, Bool.true_and]
  rfl
end
end Go.AM

namespace Go.AM
open Go Go.Proofs
/-- A list that was nil at first, handed on. -/
def J8 (ty e : Nat) (rows : List (List VV)) : VO := if rows.length = 0 then Dv else { ty := ty, esz := e, ver := 0, nl := false, rows := rows }
def stJ (t : A4) (k : Nat) : List Int := List.replicate (Ei t k).length (-1)
theorem AdW {t : A4} {k : Nat} (h : decide ((t.at k).up < 0) = true) : stJ t (k + 1) = stJ t k ++ [-1] := by
 unfold stJ
 rw [A1k h, List.length_append, List.length_singleton, List.replicate_succ']
theorem AfJ {t : A4} {k : Nat} (h : decide ((t.at k).up < 0) = false) : stJ t (k + 1) = stJ t k := by unfold stJ; rw [A0l h]
theorem A8L {t : A4} (k : Nat) : (stJ t k).length ≤ k := by unfold stJ; rw [List.length_replicate]; exact ML k
def Gv (k : Nat) : List (List (List Int)) := (List.range k).map fun (i : Nat) => [[(i : Int)]]
theorem A2v (k : Nat) : Gv (k + 1) = Gv k ++ [[[(k : Int)]]] := by
 unfold Gv
 rw [List.range_succ, List.map_append]; rfl
theorem A4J (k : Nat) : (Gv k).length = k := by simp [Gv]
def sTh (t : A4) (k j : Nat) : VH := [some ⟨A7, 0, 0, false, [[.nl, .nl, .nl]]⟩, some (AP AS 1 ((Ei t k).map eI)), some (AP AS 1 ((stJ t k).map eI)), some (AP Be 1 ((Gv j).map ED)),
 some ⟨A7, 0, 0, false, [[.sl 1 (Ei t k).length 0 (Ei t k).length, .sl 2 (stJ t k).length 0 (stJ t k).length, .sl 3 (Gv j).length 0 (Gv j).length]]⟩]
theorem A4V (ty : Nat) (L : List (List Int)) (c : List Int) : ({ ty := ty, esz := 1, ver := L.length + 1, nl := false, rows := L.map Kr ++ [[VV.ls (c.map eI)]] } : VO) = AP ty 1 ((L ++ [c]).map Kr) := by
 rw [List.map_append]
 unfold AP
 rw [if_neg (by simp), List.length_append, List.length_map]; rfl
theorem A1p (ty : Nat) (L : List (List (List Int))) (c : List (List Int)) : ({ ty := ty, esz := 1, ver := L.length + 1, nl := false, rows := L.map ED ++ [[VV.ls (c.map Kr)]] } : VO) = AP ty 1 ((L ++ [c]).map ED) := by
 rw [List.map_append]
 unfold AP
 rw [if_neg (by simp), List.length_append, List.length_map]; rfl
def cpH (s : A9) (L : List (List (List Int))) : VH := [some ⟨A7, 0, 0, false, [[.nl, .nl, .nl]]⟩, some (Py AS 1 (s.has.map eI)), some (Py AS 1 (s.jf.map eI)),
 some ⟨A7, 0, 0, false, [[.sl 1 (Ge s.has.length) 0 s.has.length, .sl 2 (Ge s.jf.length) 0 s.jf.length, .sl 4 L.length 0 L.length]]⟩, some (AP Be 1 (L.map ED))]
section
variable {V : Ao} (C : AL V) {Q : VV → Prop}
include C
set_option maxHeartbeats 4000000 in
theorem R3 (t : A4) (ht : Aj t) : VP V A0c [vT t] Q ↔ Q (Lc (JP t)) := by
 refine Aa ?_
 rw [A8 C.c_z19.1 C.c_z19.2]
 have h64 := ht.n64
 have hl4 := ht.l4
 simp only [A4E, ES, go_sem, ↓reduceIte]
 refine Am (by decide) t.nodes.length (by omega) (I := fun k F h => A3.tmp F 1 = .fp (eT t) 0 ∧ A3.tmp F 2 = .p 0 0 0 0 ∧ A3.tmp F 3 = .p 4 0 0 0 ∧ h = sTh t k 0) ?_ ?_ ?_ 0 _ _ (Nat.zero_le _) ?_ ?_
 ·rintro k F h hk p4 ⟨p1, p2, p3, rfl⟩
  simp only [ES, go_sem, ↓reduceIte, p4, p1, p2, p3]
 ·rintro k F h hk p4 ⟨p1, p2, p3, rfl⟩
  have hlen := ML (t := t) k
  cases c : decide ((t.at k).up < 0) with
  | true =>
   have b1 : ((Ei t k).length + 1) * 8 ≤ A5 := by unfold A5; omega
   have hj := A8L (t := t) k
   have b2 : ((stJ t k).length + 1) * 8 ≤ A5 := by unfold A5; omega
   simp only [ES, go_sem, ↓reduceIte, p4, p1, p2, p3, hk, A6 hk, c, sTh, A1k c, AdW c, A0, b1, b2, List.length_map, List.length_append]
  | false =>
   simp only [ES, go_sem, ↓reduceIte, p4, p1, p2, p3, hk, A6 hk, c, sTh, A0l c, AfJ c, A0]
 ·rintro F h ⟨p1, p2, p3, rfl⟩
  simp only [ES, go_sem, ↓reduceIte, p1, p2, p3]
  refine Am (by decide) t.locs.length (by omega) (I := fun j F h => A3.tmp F 1 = .fp (eT t) 0 ∧ A3.tmp F 2 = .p 0 0 0 0 ∧ A3.tmp F 3 = .p 4 0 0 0 ∧ h = sTh t t.nodes.length j) ?_ ?_ ?_ 0 _ _ (Nat.zero_le _) ?_ ?_
  ·rintro k F h hk p5 ⟨p1, p2, p3, rfl⟩
   simp only [ES, go_sem, ↓reduceIte, p5, p1, p2, p3]
  ·rintro k F h hk p5 ⟨p1, p2, p3, rfl⟩
   have hm := A4J k
   have b1 : ((Gv k).length + 1) * 24 ≤ A5 := by unfold A5; omega
   simp only [ES, go_sem, ↓reduceIte, p5, p1, p2, p3, hk, sTh, A2v, A0, b1, List.length_map, List.length_append]
   have e : List.map ED (Gv k ++ [[[(k : Int)]]]) = List.map ED (Gv k) ++ [[VV.ls [[VV.ls [[VV.i IntKind.i64 (k : Int)]]]]]] := by rw [List.map_append]; rfl
   have e2 : ({ ty := Be, esz := 1, ver := (Gv k).length + 1, nl := false, rows := List.map ED (Gv k) ++ [[VV.ls [[VV.ls [[VV.i IntKind.i64 (k : Int)]]]]]] } : VO) = AP Be 1 (List.map ED (Gv k ++ [[[(k : Int)]]])) := by
    rw [e]
    unfold AP
    rw [if_neg (by simp), List.length_append, List.length_map]; rfl
   rw [e2]
   refine ⟨.inr ?_, rfl⟩
   rw [List.all_append, Bool.and_eq_true]
   exact ⟨Gl (fun _ => rfl), rfl⟩
  ·rintro F h ⟨p1, p2, p3, rfl⟩
   simp only [ES, go_sem, ↓reduceIte, p1, p2, p3, sTh]
   rfl
  ·simp only [ES, go_sem, ↓reduceIte]
  ·simp only [ES, go_sem, ↓reduceIte, p1, p2, p3]
 ·simp only [ES, go_sem, ↓reduceIte]
 ·simp only [ES, go_sem, ↓reduceIte]
  rfl
set_option maxHeartbeats 4000000 in
theorem Kv (s : A9) (hs : Kp s) (b : Nat) {Q : VV → VH → Prop} : ZT V Nj [Lc s] b Q ↔ Q (.ag [.sl b 0 0 s.has.length, .sl (b + 1) 0 0 s.jf.length, .sl (b + 1 + 1) 0 0 s.mo.length]) [some ⟨AS, 1, 0, false, s.has.map eI⟩, some ⟨AS, 1, 0, false, s.jf.map eI⟩, some (J8 Be 1 (s.mo.map ED))] := by
 refine Mq ?_
 rw [MJ C.c_z24.2]
 have h1 := hs.has
 have h2 := hs.jf
 have h3 := hs.mo
 have b1 : s.has.length * 8 ≤ A5 := by unfold A5; omega
 have b2 : s.jf.length * 8 ≤ A5 := by unfold A5; omega
 simp only [RH, Gp, go_sem, ↓reduceIte, b1, b2]
 refine Am (by decide) s.mo.length (by omega) (I := fun k F h => A3.tmp F 1 = .fp (UQ s) 0 ∧ A3.tmp F 2 = .p 0 0 0 0 ∧ A3.tmp F 3 = .p 3 0 0 0 ∧ ∃ L, L = s.mo.take k ∧ h = cpH s L) ?_ ?_ ?_ 0 _ _ (Nat.zero_le _) ?_ ?_
 ·rintro k F h hk p4 ⟨p1, p2, p3, L, hL, rfl⟩
  simp only [Gp, go_sem, ↓reduceIte, p4, p1, p2, p3]
  exact ⟨L, hL, rfl⟩
 ·rintro k F h hk p4 ⟨p1, p2, p3, L, hL, rfl⟩
  have hm := hs.mi' k
  simp only [Gp, go_sem, ↓reduceIte, p4, p1, p2, p3, A0, cpH]
  refine Am (by decide) (s.mo.getD k []).length (by omega) (I := fun j F h => A3.tmp F 4 = .i .i64 k ∧ A3.tmp F 1 = .fp (UQ s) 0 ∧ A3.tmp F 2 = .p 0 0 0 0 ∧ A3.tmp F 3 = .p 3 0 0 0 ∧ ∃ K, K = (s.mo.getD k []).take j ∧ A3.tmp F 5 = .sl 5 K.length 0 K.length ∧ h = cpH s L ++ [some (AP E4 1 (K.map Kr))]) ?_ ?_ ?_ 0 _ _ (Nat.zero_le _) ?_ ?_
  ·rintro j F h hj q6 ⟨q4, q1, q2, q3, K, hK, q5, rfl⟩
   simp only [Gp, go_sem, ↓reduceIte, q6, q4, q1, q2, q3, q5, Ct hk]
   exact ⟨K, hK, rfl, rfl⟩
  ·rintro j F h hj q6 ⟨q4, q1, q2, q3, K, hK, q5, rfl⟩
   have htk : (s.mo.getD k []).take (j + 1) = K ++ [(s.mo.getD k []).getD j []] := by
    rw [List.take_succ_eq_append_getElem hj, hK, List.getD_eq_getElem?_getD (l := s.mo.getD k []), List.getElem?_eq_getElem hj]; rfl
   have hc := hs.mc' k j
   have hl : K.length = j := by rw [hK, List.length_take]; omega
   have b3 : ((s.mo.getD k []).getD j []).length * 8 ≤ A5 := by unfold A5; omega
   have b4 : (K.length + 1) * 24 ≤ A5 := by unfold A5; omega
   simp only [Gp, go_sem, ↓reduceIte, q6, q4, q1, q2, q3, q5, Ct hk, J6 hj, hk, hj, b3, b4, cpH, A4V, A0, List.length_append, List.length_map]
   exact ⟨K ++ [(s.mo.getD k []).getD j []], htk.symm, by simp, rfl⟩
  ·rintro F h ⟨q4, q1, q2, q3, K, hK, q5, rfl⟩
   rw [List.take_length] at hK
   subst hK
   have htk : s.mo.take (k + 1) = L ++ [s.mo.getD k []] := by
    rw [List.take_succ_eq_append_getElem hk, hL, List.getD_eq_getElem?_getD, List.getElem?_eq_getElem hk]; rfl
   have hl : L.length = k := by rw [hL, List.length_take]; omega
   have b4 : (L.length + 1) * 24 ≤ A5 := by unfold A5; omega
   simp only [Gp, go_sem, ↓reduceIte, q4, q1, q2, q3, q5, b4, cpH, A1p, List.length_append, List.length_map]
   exact ⟨L ++ [s.mo.getD k []], htk.symm, by simp⟩
  ·simp only [Gp, go_sem, ↓reduceIte]
  ·simp only [Gp, go_sem, ↓reduceIte, p4, p1, p2, p3, cpH]
   exact ⟨[], rfl, rfl, rfl⟩
 ·rintro F h ⟨p1, p2, p3, L, hL, rfl⟩
  rw [List.take_length] at hL
  subst hL
  simp only [Gp, go_sem, ↓reduceIte, p1, p2, p3, cpH, Bf, Bf.takeL]
  refine ⟨by decide, ?_⟩
  unfold AP J8
  split <;> simp_all [Dv]
 ·simp only [Gp, go_sem, ↓reduceIte]
 ·simp only [Gp, go_sem, ↓reduceIte]
  exact ⟨[], rfl, rfl⟩
end
end Go.AM

namespace Go.AM
open Go Go.Proofs
def NE : A9 := ⟨[], [], []⟩
def GX (o : Option A9) : VV := match o with
 | some s => .tu [Lc s, .b true]
 | none => .tu [Lc NE, .b false]
def D7 (t : A4) (s : A9) (n kind w : Int) : Option A9 := if C0 t s n kind = true then some (B3 s n w) else none
theorem Lx {l : List Int} {n : Int} {i : Nat} (h : i ≤ BI l n) : (i < l.length ∧ l.getD i 0 < n) ↔ i < BI l n := by
 constructor
 ·rintro ⟨h1, h2⟩
  rcases Nat.lt_or_ge i (BI l n) with c | c
  ·exact c
  ·have e : i = BI l n := by omega
   subst e
   exact absurd h2 (A8r h1)
 ·intro h2
  exact ⟨by have := E5 l n; omega, Li h2⟩
theorem Lf {ty e : Nat} {rows : List (List VV)} : (J8 ty e rows).ver = 0 := by unfold J8; split <;> rfl
theorem K4 {ty e : Nat} {rows : List (List VV)} : (J8 ty e rows).rows = rows := by
 unfold J8; split
 ·rename_i h; rw [List.length_eq_zero_iff.1 h]; rfl
 ·rfl
theorem Lw {ty : Nat} {rows : List (List VV)} : (decide (0 < (J8 ty 1 rows).esz) || (J8 ty 1 rows).nl) = true := by unfold J8; split <;> rfl
def moH (s : A9) : VH := [some ⟨A7, 0, 0, false, [[.nl, .nl, .nl]]⟩, some ⟨AS, 1, 0, false, s.has.map eI⟩, some ⟨AS, 1, 0, false, s.jf.map eI⟩, some (J8 Be 1 (s.mo.map ED)), some ⟨A7, 0, 0, false, [[.sl 1 0 0 s.has.length, .sl 2 0 0 s.jf.length, .sl 3 0 0 s.mo.length]]⟩]
section
variable {V : Ao} (C : AL V) {Q : VV → Prop}
include C
set_option maxRecDepth 4000 in
set_option maxHeartbeats 8000000 in
theorem LT (t : A4) (ht : Aj t) (s : A9) (hs : Kp s) (n kind w : Int) : VP V Gb [vT t, Lc s, .i .i64 n, .i .i64 kind, .i .i64 w] Q ↔ Q (GX (D7 t s n kind w)) := by
 refine Aa ?_
 rw [A8 C.c_z107.1 C.c_z107.2]
 have hfm := fun (Q : VV → Prop) => Ca C t ht s hs (Q := Q)
 have hno : C0 t s n kind = false → GX (D7 t s n kind w) = .tu [Lc NE, .b false] := fun h => by rw [D7, h]; rfl
 have e0 : (VV.tu [Lc NE, .b false]) = .tu [.ag [.ls [], .ls [], .ls []], .b false] := rfl
 have hle := hs.has
 cases hf : Bq t s with
 | false =>
  rw [hno (by rw [C0, hf]; rfl), e0]
  simp only [C4, B9, go_sem, ↓reduceIte, hfm, hf]
 | true =>
 cases h1 : Ch t n with
 | false =>
  rw [hno (by rw [C0, hf, h1]; rfl), e0]
  simp only [C4, B9, go_sem, ↓reduceIte, hfm, hf, Ar C, h1]
 | true =>
 obtain ⟨m, rfl, hm⟩ := Aq h1
 cases h2 : decide ((t.at m).kind = kind) with
 | false =>
  rw [hno (by rw [C0, hf, h1, Int.toNat_natCast, h2]; rfl), e0]
  simp only [C4, B9, go_sem, ↓reduceIte, hfm, hf, Ar C, h1, A6 hm, h2]
 | true =>
 have w1 := EC s.has (m : Int)
 cases h3 : BB s.has (m : Int) with
 | true =>
  rw [hno (by rw [C0, hf, h1, Int.toNat_natCast, h2, h3]; rfl), e0]
  rw [h3] at w1
  simp only [C4, B9, go_sem, ↓reduceIte, hfm, hf, Ar C, h1, A6 hm, h2, Al C s.has (by omega), w1]
 | false =>
 rw [h3] at w1
 have w2 := Cb s.has (t.at m).up
 cases h4 : BB s.has (t.at m).up with
 | false =>
  rw [hno (by rw [C0, hf, h1, Int.toNat_natCast, h2, h3, h4]; rfl), e0]
  rw [h4] at w2
  simp only [C4, B9, go_sem, ↓reduceIte, hfm, hf, Ar C, h1, A6 hm, h2, Al C s.has (by omega), w1, w2]
 | true =>
 rw [h4] at w2
 have hok : D7 t s m kind w = some (B3 s m w) := by rw [D7, C0, hf, h1, Int.toNat_natCast, h2, h3, h4]; rfl
 rw [hok]
 have hcp := fun (b : Nat) (Q : VV → VH → Prop) => Kv C s hs b (Q := Q)
 simp only [C4, B9, go_sem, ↓reduceIte, hfm, hf, Ar C, h1, A6 hm, h2, Al C s.has (by omega), w1, w2, hcp]
 unfold VL
 rw [A0]
 have hjl : s.jf.length = s.has.length := by simp only [Bq, Bool.and_eq_true, decide_eq_true_eq] at hf; exact hf.1.1.1.1.2
 refine AI (M := Nat) (I := fun i F h => i ≤ BI s.has m ∧ A3.tmp F 2 = .i .i64 m ∧ A3.tmp F 4 = .i .i64 w ∧ A3.tmp F 6 = .fp (UQ s) 0 ∧ A3.tmp F 10 = .p 0 0 0 0 ∧ A3.tmp F 12 = .p 4 0 0 0 ∧ A3.tmp F 13 = .i .i64 i ∧ h = moH s) (μ := fun i => s.has.length - i) ?_ 0 _ _ ⟨Nat.zero_le _, ?_, ?_, ?_, ?_, ?_, ?_, rfl⟩
 ·rintro i F h ⟨hi, p2, p4, p6, p10, p12, p13, rfl⟩
  have hiff := Lx hi
  have hkl := E5 s.has m
  by_cases c : i < s.has.length
  ·cases c2 : decide (s.has.getD i 0 < (m : Int)) with
   | true =>
    have c2' := of_decide_eq_true c2
    have hlt := hiff.1 ⟨c, c2'⟩
    have hw : IntKind.i64.wrap ((i : Int) + 1) = ((i + 1 : Nat) : Int) := by rw [AC (by omega) (by omega)]; omega
    simp only [E6, B9, go_sem, ↓reduceIte, p2, p4, p6, p10, p12, p13, c, Ay c, c2, A0, hw]
    exact ⟨i + 1, by omega, by omega, rfl, rfl, rfl⟩
   | false =>
    have c2' := of_decide_eq_false c2
    have e : i = BI s.has m := by
     rcases Nat.lt_or_ge i (BI s.has m) with h | h
     ·exact absurd (Li h) c2'
     ·omega
    obtain ⟨A, hA⟩ : ∃ A, A = s.has.take i := ⟨_, rfl⟩
    obtain ⟨B, hB⟩ : ∃ B, B = s.has.drop i := ⟨_, rfl⟩
    obtain ⟨A', hA'⟩ : ∃ A, A = s.jf.take i := ⟨_, rfl⟩
    obtain ⟨B', hB'⟩ : ∃ B, B = s.jf.drop i := ⟨_, rfl⟩
    have lA : A.length = i := by rw [hA, List.length_take]; omega
    have lA' : A'.length = i := by rw [hA', List.length_take]; omega
    have lB : B.length = s.has.length - i := by rw [hB, List.length_drop]
    have lB' : B'.length = s.jf.length - i := by rw [hB', List.length_drop]
    have tB : List.take (s.has.length - i) B = B := List.take_of_length_le (by omega)
    have tB' : List.take (s.jf.length - i) B' = B' := List.take_of_length_le (by omega)
    have c1 : i ≤ s.has.length := by omega
    have c1' : i ≤ s.jf.length := by omega
    have b1 : A.length * 8 ≤ A5 := by unfold A5; omega
    have b1' : A'.length * 8 ≤ A5 := by unfold A5; omega
    have b2 : (A.length + 1) * 8 ≤ A5 := by unfold A5; omega
    have b2' : (A'.length + 1) * 8 ≤ A5 := by unfold A5; omega
    obtain ⟨b0, Bs, rfl⟩ : ∃ b0 Bs, B = b0 :: Bs := by
     cases B with
     | nil => simp at lB; omega
     | cons b0 Bs => exact ⟨b0, Bs, rfl⟩
    obtain ⟨b0', Bs', rfl⟩ : ∃ b0 Bs, B' = b0 :: Bs := by
     cases B' with
     | nil => simp at lB'; omega
     | cons b0 Bs => exact ⟨b0, Bs, rfl⟩
    rw [List.length_cons] at lB lB'
    have tBm : List.take (s.has.length - i) (eI b0 :: List.map eI Bs) = eI b0 :: List.map eI Bs := List.take_of_length_le (by simp; omega)
    have tBm' : List.take (s.jf.length - i) (eI b0' :: List.map eI Bs') = eI b0' :: List.map eI Bs' := List.take_of_length_le (by simp; omega)
    obtain ⟨X, hX⟩ : ∃ X, X = A ++ [(m : Int)] ++ b0 :: Bs := ⟨_, rfl⟩
    obtain ⟨X', hX'⟩ : ∃ X, X = A' ++ [w] ++ b0' :: Bs' := ⟨_, rfl⟩
    have jX : List.map eI (A ++ [(m : Int)]) ++ eI b0 :: List.map eI Bs = List.map eI X := by rw [hX, List.map_append (l₁ := A ++ [(m : Int)])]; rfl
    have jX' : List.map eI (A' ++ [w]) ++ eI b0' :: List.map eI Bs' = List.map eI X' := by rw [hX', List.map_append (l₁ := A' ++ [w])]; rfl
    have lX : A.length + 1 + (Bs.length + 1) = X.length := by rw [hX]; simp; omega
    have lX' : A'.length + 1 + (Bs'.length + 1) = X'.length := by rw [hX']; simp; omega
    have b3 : X.length * 8 ≤ A5 := by unfold A5; omega
    have b3' : X'.length * 8 ≤ A5 := by unfold A5; omega
    have eX : X = BL s.has (BI s.has m) m := by rw [hX, BL, ← e, ← hA, ← hB]; simp
    have eX' : X' = BL s.jf (BI s.has m) w := by rw [hX', BL, ← e, ← hA', ← hB']; simp
    simp only [E6, B9, go_sem, ↓reduceIte, p2, p4, p6, p10, p12, p13, c, Ay c, c2, A0, moH, ← hA, ← hB, ← hA', ← hB', tBm, tBm', c1, c1', b1, b1', b2, b2', b3, b3', List.length_append, List.length_map, Lf, K4, Lw, jX, jX', lX, lX']
    rw [eX, eX']; rfl
  ·have e : i = BI s.has m := by omega
   obtain ⟨A, hA⟩ : ∃ A, A = s.has.take i := ⟨_, rfl⟩
   obtain ⟨B, hB⟩ : ∃ B, B = s.has.drop i := ⟨_, rfl⟩
   obtain ⟨A', hA'⟩ : ∃ A, A = s.jf.take i := ⟨_, rfl⟩
   obtain ⟨B', hB'⟩ : ∃ B, B = s.jf.drop i := ⟨_, rfl⟩
   have lA : A.length = i := by rw [hA, List.length_take]; omega
   have lA' : A'.length = i := by rw [hA', List.length_take]; omega
   have lB : B.length = s.has.length - i := by rw [hB, List.length_drop]
   have lB' : B'.length = s.jf.length - i := by rw [hB', List.length_drop]
   have tB : List.take (s.has.length - i) B = B := List.take_of_length_le (by omega)
   have tB' : List.take (s.jf.length - i) B' = B' := List.take_of_length_le (by omega)
   have c1 : i ≤ s.has.length := by omega
   have c1' : i ≤ s.jf.length := by omega
   have b1 : A.length * 8 ≤ A5 := by unfold A5; omega
   have b1' : A'.length * 8 ≤ A5 := by unfold A5; omega
   have b2 : (A.length + 1) * 8 ≤ A5 := by unfold A5; omega
   have b2' : (A'.length + 1) * 8 ≤ A5 := by unfold A5; omega
   obtain rfl : B = [] := List.length_eq_zero_iff.1 (by omega)
   obtain rfl : B' = [] := List.length_eq_zero_iff.1 (by omega)
   have b3 : (A.length + 1 + 0) * 8 ≤ A5 := by unfold A5; omega
   have b3' : (A'.length + 1 + 0) * 8 ≤ A5 := by unfold A5; omega
   simp only [E6, B9, go_sem, ↓reduceIte, p2, p4, p6, p10, p12, p13, c, A0, moH, ← hA, ← hB, ← hA', ← hB', tB, tB', c1, c1', b1, b1', b2, b2', b3, b3', List.length_append, List.length_map, Lf, K4, Lw]
   have eX : A ++ [(m : Int)] = BL s.has (BI s.has m) m := by rw [BL, ← e, ← hA, ← hB]
   have eX' : A' ++ [w] = BL s.jf (BI s.has m) w := by rw [BL, ← e, ← hA', ← hB']
   rw [eX, eX']; rfl
 ·simp only [B9, go_sem, ↓reduceIte]
 ·simp only [B9, go_sem, ↓reduceIte]
 ·simp only [B9, go_sem, ↓reduceIte]
 ·simp only [B9, go_sem, ↓reduceIte]
 ·simp only [B9, go_sem, ↓reduceIte]
 ·simp only [B9, go_sem, ↓reduceIte]
end
end Go.AM

namespace Go.AM
open Go Go.Proofs
abbrev agS (s : A9) (b : Nat) : VV := .ag [.sl b 0 0 s.has.length, .sl (b + 1) 0 0 s.jf.length, .sl (b + 1 + 1) 0 0 s.mo.length]
abbrev obS (s : A9) : VH := [some ⟨AS, 1, 0, false, s.has.map eI⟩, some ⟨AS, 1, 0, false, s.jf.map eI⟩, some (J8 Be 1 (s.mo.map ED))]
theorem WV {ty e : Nat} {rows : List (List VV)} : ({ ty := (J8 ty e rows).ty, esz := (J8 ty e rows).esz, ver := 0, nl := (J8 ty e rows).nl, rows := rows } : VO) = J8 ty e rows := by
 unfold J8
 split
 ·rename_i h; rw [List.length_eq_zero_iff.1 h]; rfl
 ·rfl
theorem Pm {α : Type} {g : α → Option (α × List Nat)} : ∀ (l : List α) (k : Nat) (x y : α) (ids : List Nat), (∀ a ∈ l, g a = some (a, [])) → k < l.length → g x = some (y, ids) → AR g (l.set k x) = some (l.set k y, ids)
 | [], k, x, y, ids, _, hk, _ => by simp at hk
 | a :: l, 0, x, y, ids, h, _, hx => by
  have hl : AR g l = some (l, []) := by
   have : ∀ (l : List α), (∀ a ∈ l, g a = some (a, [])) → AR g l = some (l, []) := by
    intro l
    induction l with
    | nil => intro _; rfl
    | cons b l ih => intro h; simp only [AR, h b (by simp), ih fun a ha => h a (by simp [ha]), List.nil_append]
   exact this l fun a ha => h a (by simp [ha])
  simp only [List.set_cons_zero, AR, hx, hl, List.append_nil]
 | a :: l, k + 1, x, y, ids, h, hk, hx => by
  have := Pm l k x y ids (fun a ha => h a (by simp [ha])) (by simpa using hk) hx
  simp only [List.set_cons_succ, AR, h a (by simp), this, List.nil_append]
theorem A5F {H : VH} {l : List (List (List Int))} {k : Nat} (hk : k < l.length) {v : VV} {X : List (List Int)} {ids : List Nat} (hv : frz H 5 v = some (.ls (X.map Kr), ids)) :
  AR (fun row => AR (frz H 5) row) (List.take l.length ((l.map ED).set k [v])) = some ((l.set k X).map ED, ids) := by
 rw [List.take_of_length_le (by simp)]
 rw [List.map_set]
 refine Pm (l.map ED) k [v] (ED X) ids ?_ (by simpa using hk) ?_
 ·intro a ha
  obtain ⟨c, _, rfl⟩ := List.mem_map.1 ha
  simp only [go_sem, MV, ↓reduceIte]
 ·simp only [AR, hv, List.append_nil]
section
variable {V : Ao} (C : AL V)
include C
set_option maxHeartbeats 8000000 in
theorem Px (t : A4) (ht : Aj t) (s : A9) (hs : Kp s) (n kind w : Int) (h0 : C0 t s n kind = false) (b : Nat) {Q : VV → VH → Prop} : ZT V Gb [vT t, Lc s, .i .i64 n, .i .i64 kind, .i .i64 w] b Q ↔ Q (.tu [Lc NE, .b false]) [] := by
 refine Mq ?_
 rw [MJ C.c_z107.2]
 have hfm := fun (Q : VV → Prop) => Ca C t ht s hs (Q := Q)
 have e0 : (VV.tu [Lc NE, .b false]) = .tu [.ag [.ls [], .ls [], .ls []], .b false] := rfl
 have hle := hs.has
 rw [e0]
 cases hf : Bq t s with
 | false =>
  simp only [C4, B9, go_sem, ↓reduceIte, hfm, hf, Bf, Bf.takeL]
  exact List.nodup_nil
 | true =>
 cases h1 : Ch t n with
 | false =>
  simp only [C4, B9, go_sem, ↓reduceIte, hfm, hf, Ar C, h1, Bf, Bf.takeL]
  exact List.nodup_nil
 | true =>
 obtain ⟨m, rfl, hm⟩ := Aq h1
 cases h2 : decide ((t.at m).kind = kind) with
 | false =>
  simp only [C4, B9, go_sem, ↓reduceIte, hfm, hf, Ar C, h1, A6 hm, h2, Bf, Bf.takeL]
  exact List.nodup_nil
 | true =>
 have w1 := EC s.has (m : Int)
 cases h3 : BB s.has (m : Int) with
 | true =>
  rw [h3] at w1
  simp only [C4, B9, go_sem, ↓reduceIte, hfm, hf, Ar C, h1, A6 hm, h2, Al C s.has (by omega), w1, Bf, Bf.takeL]
  exact List.nodup_nil
 | false =>
 rw [h3] at w1
 have w2 := Cb s.has (t.at m).up
 cases h4 : BB s.has (t.at m).up with
 | false =>
  rw [h4] at w2
  simp only [C4, B9, go_sem, ↓reduceIte, hfm, hf, Ar C, h1, A6 hm, h2, Al C s.has (by omega), w1, w2, Bf, Bf.takeL]
  exact List.nodup_nil
 | true =>
  rw [C0, hf, h1, Int.toNat_natCast, h2, h3, h4] at h0
  cases h0
set_option maxHeartbeats 8000000 in
theorem QS (t : A4) (ht : Aj t) (s : A9) (hs : Kp s) {m : Nat} (hm : m < t.nodes.length) (kind w : Int) (hok : C0 t s m kind = true) (b : Nat) {Q : VV → VH → Prop} : ZT V Gb [vT t, Lc s, .i .i64 m, .i .i64 kind, .i .i64 w] b Q ↔ Q (.tu [agS (B3 s m w) b, .b true]) (obS (B3 s m w)) := by
 refine Mq ?_
 rw [MJ C.c_z107.2]
 have hfm := fun (Q : VV → Prop) => Ca C t ht s hs (Q := Q)
 have hle := hs.has
 have h1 : Ch t (m : Int) = true := EM hm
 simp only [C0, Bool.and_eq_true, Bool.not_eq_true', Int.toNat_natCast] at hok
 obtain ⟨⟨⟨⟨hf, _⟩, h2⟩, h3⟩, h4⟩ := hok
 have w1 := EC s.has (m : Int)
 have w2 := Cb s.has (t.at m).up
 rw [h3] at w1
 rw [h4] at w2
 have hcp := fun (b : Nat) (Q : VV → VH → Prop) => Kv C s hs b (Q := Q)
 simp only [C4, B9, go_sem, ↓reduceIte, hfm, hf, Ar C, h1, A6 hm, h2, Al C s.has (by omega), w1, w2, hcp]
 unfold VL
 rw [A0]
 have hjl : s.jf.length = s.has.length := by simp only [Bq, Bool.and_eq_true, decide_eq_true_eq] at hf; exact hf.1.1.1.1.2
 refine AI (M := Nat) (I := fun i F h => i ≤ BI s.has m ∧ A3.tmp F 2 = .i .i64 m ∧ A3.tmp F 4 = .i .i64 w ∧ A3.tmp F 6 = .fp (UQ s) 0 ∧ A3.tmp F 10 = .p 0 0 0 0 ∧ A3.tmp F 12 = .p 4 0 0 0 ∧ A3.tmp F 13 = .i .i64 i ∧ h = moH s) (μ := fun i => s.has.length - i) ?_ 0 _ _ ⟨Nat.zero_le _, ?_, ?_, ?_, ?_, ?_, ?_, rfl⟩
 ·rintro i F h ⟨hi, p2, p4, p6, p10, p12, p13, rfl⟩
  have hiff := Lx hi
  have hkl := E5 s.has m
  by_cases c : i < s.has.length
  ·cases c2 : decide (s.has.getD i 0 < (m : Int)) with
   | true =>
    have c2' := of_decide_eq_true c2
    have hlt := hiff.1 ⟨c, c2'⟩
    have hw : IntKind.i64.wrap ((i : Int) + 1) = ((i + 1 : Nat) : Int) := by rw [AC (by omega) (by omega)]; omega
    simp only [E6, B9, go_sem, ↓reduceIte, p2, p4, p6, p10, p12, p13, c, Ay c, c2, A0, hw]
    exact ⟨i + 1, by omega, by omega, rfl, rfl, rfl⟩
   | false =>
    have c2' := of_decide_eq_false c2
    have e : i = BI s.has m := by
     rcases Nat.lt_or_ge i (BI s.has m) with h | h
     ·exact absurd (Li h) c2'
     ·omega
    obtain ⟨A, hA⟩ : ∃ A, A = s.has.take i := ⟨_, rfl⟩
    obtain ⟨B, hB⟩ : ∃ B, B = s.has.drop i := ⟨_, rfl⟩
    obtain ⟨A', hA'⟩ : ∃ A, A = s.jf.take i := ⟨_, rfl⟩
    obtain ⟨B', hB'⟩ : ∃ B, B = s.jf.drop i := ⟨_, rfl⟩
    have lA : A.length = i := by rw [hA, List.length_take]; omega
    have lA' : A'.length = i := by rw [hA', List.length_take]; omega
    have lB : B.length = s.has.length - i := by rw [hB, List.length_drop]
    have lB' : B'.length = s.jf.length - i := by rw [hB', List.length_drop]
    have tB : List.take (s.has.length - i) B = B := List.take_of_length_le (by omega)
    have tB' : List.take (s.jf.length - i) B' = B' := List.take_of_length_le (by omega)
    have c1 : i ≤ s.has.length := by omega
    have c1' : i ≤ s.jf.length := by omega
    have b1 : A.length * 8 ≤ A5 := by unfold A5; omega
    have b1' : A'.length * 8 ≤ A5 := by unfold A5; omega
    have b2 : (A.length + 1) * 8 ≤ A5 := by unfold A5; omega
    have b2' : (A'.length + 1) * 8 ≤ A5 := by unfold A5; omega
    obtain ⟨b0, Bs, rfl⟩ : ∃ b0 Bs, B = b0 :: Bs := by
     cases B with
     | nil => simp at lB; omega
     | cons b0 Bs => exact ⟨b0, Bs, rfl⟩
    obtain ⟨b0', Bs', rfl⟩ : ∃ b0 Bs, B' = b0 :: Bs := by
     cases B' with
     | nil => simp at lB'; omega
     | cons b0 Bs => exact ⟨b0, Bs, rfl⟩
    rw [List.length_cons] at lB lB'
    have tBm : List.take (s.has.length - i) (eI b0 :: List.map eI Bs) = eI b0 :: List.map eI Bs := List.take_of_length_le (by simp; omega)
    have tBm' : List.take (s.jf.length - i) (eI b0' :: List.map eI Bs') = eI b0' :: List.map eI Bs' := List.take_of_length_le (by simp; omega)
    obtain ⟨X, hX⟩ : ∃ X, X = A ++ [(m : Int)] ++ b0 :: Bs := ⟨_, rfl⟩
    obtain ⟨X', hX'⟩ : ∃ X, X = A' ++ [w] ++ b0' :: Bs' := ⟨_, rfl⟩
    have jX : List.map eI (A ++ [(m : Int)]) ++ eI b0 :: List.map eI Bs = List.map eI X := by rw [hX, List.map_append (l₁ := A ++ [(m : Int)])]; rfl
    have jX' : List.map eI (A' ++ [w]) ++ eI b0' :: List.map eI Bs' = List.map eI X' := by rw [hX', List.map_append (l₁ := A' ++ [w])]; rfl
    have lX : A.length + 1 + (Bs.length + 1) = X.length := by rw [hX]; simp; omega
    have lX' : A'.length + 1 + (Bs'.length + 1) = X'.length := by rw [hX']; simp; omega
    have b3 : X.length * 8 ≤ A5 := by unfold A5; omega
    have b3' : X'.length * 8 ≤ A5 := by unfold A5; omega
    have eX : X = BL s.has (BI s.has m) m := by rw [hX, BL, ← e, ← hA, ← hB]; simp
    have eX' : X' = BL s.jf (BI s.has m) w := by rw [hX', BL, ← e, ← hA', ← hB']; simp
    simp only [E6, B9, go_sem, ↓reduceIte, p2, p4, p6, p10, p12, p13, c, Ay c, c2, A0, moH, ← hA, ← hB, ← hA', ← hB', tBm, tBm', c1, c1', b1, b1', b2, b2', b3, b3', List.length_append, List.length_map, Lf, K4, Lw, Bf, Bf.takeL, jX, jX', lX, lX']
    exact ⟨by decide, by rw [eX, eX']; rfl, by rw [WV, eX, eX']; rfl⟩
  ·have e : i = BI s.has m := by omega
   obtain ⟨A, hA⟩ : ∃ A, A = s.has.take i := ⟨_, rfl⟩
   obtain ⟨B, hB⟩ : ∃ B, B = s.has.drop i := ⟨_, rfl⟩
   obtain ⟨A', hA'⟩ : ∃ A, A = s.jf.take i := ⟨_, rfl⟩
   obtain ⟨B', hB'⟩ : ∃ B, B = s.jf.drop i := ⟨_, rfl⟩
   have lA : A.length = i := by rw [hA, List.length_take]; omega
   have lA' : A'.length = i := by rw [hA', List.length_take]; omega
   have lB : B.length = s.has.length - i := by rw [hB, List.length_drop]
   have lB' : B'.length = s.jf.length - i := by rw [hB', List.length_drop]
   have tB : List.take (s.has.length - i) B = B := List.take_of_length_le (by omega)
   have tB' : List.take (s.jf.length - i) B' = B' := List.take_of_length_le (by omega)
   have c1 : i ≤ s.has.length := by omega
   have c1' : i ≤ s.jf.length := by omega
   have b1 : A.length * 8 ≤ A5 := by unfold A5; omega
   have b1' : A'.length * 8 ≤ A5 := by unfold A5; omega
   have b2 : (A.length + 1) * 8 ≤ A5 := by unfold A5; omega
   have b2' : (A'.length + 1) * 8 ≤ A5 := by unfold A5; omega
   obtain rfl : B = [] := List.length_eq_zero_iff.1 (by omega)
   obtain rfl : B' = [] := List.length_eq_zero_iff.1 (by omega)
   have b3 : (A.length + 1 + 0) * 8 ≤ A5 := by unfold A5; omega
   have b3' : (A'.length + 1 + 0) * 8 ≤ A5 := by unfold A5; omega
   simp only [E6, B9, go_sem, ↓reduceIte, p2, p4, p6, p10, p12, p13, c, A0, moH, ← hA, ← hB, ← hA', ← hB', tB, tB', c1, c1', b1, b1', b2, b2', b3, b3', List.length_append, List.length_map, Lf, K4, Lw, Bf, Bf.takeL]
   have eX : A ++ [(m : Int)] = BL s.has (BI s.has m) m := by rw [BL, ← e, ← hA, ← hB]
   have eX' : A' ++ [w] = BL s.jf (BI s.has m) w := by rw [BL, ← e, ← hA', ← hB']
   have lX : A.length + 1 = (BL s.has (BI s.has m) m).length := by rw [← eX]; simp
   have lX' : A'.length + 1 = (BL s.jf (BI s.has m) w).length := by rw [← eX']; simp
   exact ⟨by decide, by rw [lX, lX']; rfl, by rw [WV, eX, eX']; rfl⟩
 ·simp only [B9, go_sem, ↓reduceIte]
 ·simp only [B9, go_sem, ↓reduceIte]
 ·simp only [B9, go_sem, ↓reduceIte]
 ·simp only [B9, go_sem, ↓reduceIte]
 ·simp only [B9, go_sem, ↓reduceIte]
 ·simp only [B9, go_sem, ↓reduceIte]
theorem VX (t : A4) (ht : Aj t) (s : A9) (hs : Kp s) (n : Int) {Q : VV → Prop} : VP V A0t [vT t, Lc s, .i .i64 n] Q ↔ Q (GX (D7 t s n 4 (-1))) := by
 refine Aa ?_
 rw [A8 C.c_z58.1 C.c_z58.2]
 have hm := fun (Q : VV → Prop) => LT C t ht s hs n 4 (-1) (Q := Q)
 cases h : D7 t s n 4 (-1) with
 | none =>
  rw [h] at hm
  simp only [GX, NE] at hm ⊢
  simp only [A18, Ve, go_sem, ↓reduceIte, hm]
  rfl
 | some s' =>
  rw [h] at hm
  simp only [GX] at hm ⊢
  simp only [A18, Ve, go_sem, ↓reduceIte, hm]
def Nf (t : A4) (s : A9) (n w : Int) : Option A9 := match D7 t s n 2 w with
 | some s' => if Bq t s' = true then some s' else none
 | none => none
theorem Uf (t : A4) (ht : Aj t) (s : A9) (hs : Kp s) (hz : s.has.length < 1000 ∧ s.jf.length < 1000) (n w : Int) {Q : VV → Prop} : VP V A1B [vT t, Lc s, .i .i64 n, .i .i64 w] Q ↔ Q (GX (Nf t s n w)) := by
 refine Aa ?_
 rw [A8 C.c_z59.1 C.c_z59.2]
 have hm := fun (Q : VV → Prop) => LT C t ht s hs n 2 w (Q := Q)
 unfold Nf
 cases h : D7 t s n 2 w with
 | none =>
  rw [h] at hm
  simp only [GX, NE] at hm ⊢
  simp only [We, Ry, go_sem, ↓reduceIte, hm]
  rfl
 | some s' =>
  rw [h] at hm
  have hs' : Kp s' := by
   rw [D7] at h
   split at h
   ·rename_i hok
    cases h
    have h1 := E5 s.has n
    have hj : s.jf.length = s.has.length := by
     simp only [C0, Bq, Bool.and_eq_true, decide_eq_true_eq] at hok
     exact hok.1.1.1.1.1.1.1.1.2
    exact ⟨by show (BL _ _ _).length ≤ 1000; rw [EV h1]; omega, by show (BL _ _ _).length ≤ 1000; rw [EV (by omega)]; omega, hs.mo, hs.mi, hs.mc⟩
   ·cases h
  have hf := fun (Q : VV → Prop) => Ca C t ht s' hs' (Q := Q)
  cases hff : Bq t s' with
  | false =>
   simp only [GX, NE, hff, Bool.false_eq_true, if_false] at hm ⊢
   simp only [We, Ry, go_sem, ↓reduceIte, hm, hf, hff]
   rfl
  | true =>
   simp only [GX, hff, if_true] at hm ⊢
   simp only [We, Ry, go_sem, ↓reduceIte, hm, hf, hff]
def Hn (t : A4) (s : A9) (n at_ : Int) : Option A9 := match D7 t s n 3 (-1) with
 | some s' => if at_ < 1 ∨ ((s'.mo.getD (t.at n.toNat).loc.toNat []).length : Int) < at_ then none else
   some { s' with mo := s'.mo.set (t.at n.toNat).loc.toNat ((s'.mo.getD (t.at n.toNat).loc.toNat []).take at_.toNat ++ [n] :: (s'.mo.getD (t.at n.toNat).loc.toNat []).drop at_.toNat) }
 | none => none
set_option maxHeartbeats 4000000 in
theorem QW (t : A4) (ht : Aj t) (s : A9) (hs : Kp s) (n at_ : Int) {Q : VV → Prop} : VP V A1Q [vT t, Lc s, .i .i64 n, .i .i64 at_] Q ↔ Q (GX (Hn t s n at_)) := by
 refine Aa ?_
 rw [A8 C.c_z61.1 C.c_z61.2]
 unfold Hn D7
 cases hok : C0 t s n 3 with
 | false =>
  have hm := fun (b : Nat) (Q : VV → VH → Prop) => Px C t ht s hs n 3 (-1) hok b (Q := Q)
  simp only [GX, NE, Bool.false_eq_true, if_false] at hm ⊢
  simp only [P1, HY, go_sem, ↓reduceIte, hm]
  rfl
 | true =>
  have hok' := hok
  simp only [C0, Bool.and_eq_true, decide_eq_true_eq] at hok'
  obtain ⟨⟨⟨⟨hf, h1⟩, h2⟩, h3⟩, h4⟩ := hok'
  obtain ⟨m, rfl, hmn⟩ := Aq h1
  rw [Int.toNat_natCast] at h2
  have hm := fun (b : Nat) (Q : VV → VH → Prop) => QS C t ht s hs hmn 3 (-1) hok b (Q := Q)
  have hmo : s.mo.length = t.locs.length := by simp only [Bq, Bool.and_eq_true, decide_eq_true_eq] at hf; exact hf.1.1.1.2
  obtain ⟨l0, l1⟩ := ht.wloc hmn (.inr h2)
  obtain ⟨loc, hloc⟩ := Int.eq_ofNat_of_zero_le l0
  have hll : loc < s.mo.length := by omega
  rw [if_pos rfl]
  simp only [Int.toNat_natCast, hloc]
  have hll' : loc < (B3 s m (-1)).mo.length := hll
  have hz : J8 Be 1 (List.map ED (B3 s m (-1)).mo) = ⟨Be, 1, 0, false, List.map ED (B3 s m (-1)).mo⟩ := by
   unfold J8
   rw [if_neg (by rw [List.length_map]; omega)]
  have BU := Ct hll'
  have hsz := hs.mi' loc
  obtain ⟨L, hL⟩ : ∃ L, L = (B3 s m (-1)).mo.getD loc [] := ⟨_, rfl⟩
  rw [← hL] at BU
  have hLl : L.length ≤ 1000 := by rw [hL]; exact hsz
  rw [← hL]
  cases c1 : decide (at_ < 1) with
  | true =>
   rw [if_pos (.inl (of_decide_eq_true c1))]
   simp only [GX, NE]
   simp only [P1, HY, go_sem, ↓reduceIte, hm, A6 hmn, hloc, hz, BU, hll', c1]
   rfl
  | false =>
  have c1' := of_decide_eq_false c1
  obtain ⟨a, rfl⟩ := Int.eq_ofNat_of_zero_le (show 0 ≤ at_ by omega)
  have c2n : decide ((L.length : Int) < (a : Int)) = decide (L.length < a) := decide_eq_decide.2 ⟨fun h => by omega, fun h => by omega⟩
  cases c2 : decide (L.length < a) with
  | true =>
   have := of_decide_eq_true c2
   rw [if_pos (.inr (by omega))]
   simp only [GX, NE]
   simp only [P1, HY, go_sem, ↓reduceIte, hm, A6 hmn, hloc, hz, BU, hll', c1, c2n, c2]
   rfl
  | false =>
  have c2' := of_decide_eq_false c2
  rw [if_neg (by omega), Int.toNat_natCast]
  have c3 : a ≤ L.length := by omega
  obtain ⟨A, hA⟩ : ∃ A, A = L.take a := ⟨_, rfl⟩
  obtain ⟨B, hB⟩ : ∃ B, B = L.drop a := ⟨_, rfl⟩
  have lA : A.length = a := by rw [hA, List.length_take]; omega
  have lB : B.length = L.length - a := by rw [hB, List.length_drop]
  have b1 : A.length * 24 ≤ A5 := by unfold A5; omega
  have b2 : (A.length + 1) * 24 ≤ A5 := by unfold A5; omega
  have jA : List.map Kr A ++ [[VV.ls [[VV.i .i64 (m : Int)]]]] = List.map Kr (A ++ [[(m : Int)]]) := by rw [List.map_append]; rfl
  rw [← hA, ← hB]
  cases B with
  | nil =>
   have b3 : (A.length + 1 + 0) * 24 ≤ A5 := by unfold A5; omega
   have tB : List.take (L.length - a) ([] : List (List Int)) = [] := List.take_nil
   simp only [P1, HY, go_sem, ↓reduceIte, hm, A6 hmn, hloc, hz, BU, hll', c1, c2n, c2, c3, ← hA, ← hB, tB, b1, b2, b3, jA, List.length_append, List.length_map]
   rw [A5F hll' (X := A ++ [[(m : Int)]]) (ids := [8]) (by simp only [HY, go_sem, ↓reduceIte, List.length_append, List.length_map])]
   simp only [HY, go_sem, ↓reduceIte, List.length_set, List.length_map]
   rfl
  | cons b0 Bs =>
   rw [List.length_cons] at lB
   obtain ⟨X, hX⟩ : ∃ X, X = A ++ [[(m : Int)]] ++ b0 :: Bs := ⟨_, rfl⟩
   have tBm : List.take (L.length - a) (Kr b0 :: List.map Kr Bs) = Kr b0 :: List.map Kr Bs := List.take_of_length_le (by simp; omega)
   have jX : List.map Kr (A ++ [[(m : Int)]]) ++ Kr b0 :: List.map Kr Bs = List.map Kr X := by rw [hX, List.map_append (l₁ := A ++ [[(m : Int)]])]; rfl
   have lX : A.length + 1 + (Bs.length + 1) = X.length := by rw [hX]; simp; omega
   have b3 : X.length * 24 ≤ A5 := by unfold A5; omega
   simp only [P1, HY, go_sem, ↓reduceIte, hm, A6 hmn, hloc, hz, BU, hll', c1, c2n, c2, c3, ← hA, ← hB, tBm, b1, b2, b3, jA, jX, lX, List.length_append, List.length_map]
   rw [A5F hll' (X := X) (ids := [8]) (by simp only [HY, go_sem, ↓reduceIte])]
   simp only [HY, go_sem, ↓reduceIte, List.length_set, List.length_map]
   have eX : X = A ++ [(m : Int)] :: b0 :: Bs := by rw [hX]; simp
   rw [eX]; rfl
end
end Go.AM
