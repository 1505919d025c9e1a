/-
  Own work, part of the proof of CoheWalked: what functions compute (fourth part).
-/
import Derived.Test.YtpcpldaangchaaaGreatDoorKC
import Derived.Test.YtpcpldaangchaaaGreatDoorAmF
import Derived.Test.YtpcpldaangchaaaGreatDoorPl
set_option maxRecDepth 4000
set_option linter.unusedVariables false
set_option linter.unusedSimpArgs false
set_option linter.unusedSectionVars false
set_option linter.unnecessarySimpa false
namespace Go.AM
open Go Go.Proofs
def AiD : Et := leaf T9 ⟨XY, Sw⟩
theorem A5M : ∀ n : Fin 65, TO (AH, Yi) AiD (leaf JU ⟨Mh, J8⟩) 5000 ⟨Yp, SJ⟩ [.i .u64 1, .i .u64 ((n.val : Nat) : Int)] [] (.tu [.i .u64 0, .i .u64 ((n.val : Nat) : Int)]) = true := by decide +kernel
/-- A list half full: m of n are laid. -/
def Jd (x : Int) (m n : Nat) : List Int := List.replicate m x ++ List.replicate (n - m) 0
theorem A36 {x : Int} {m n : Nat} (h : m ≤ n) : (Jd x m n).length = n := by simp [Jd]; omega
theorem Yo {x : Int} {m n : Nat} (h : m ≤ n) : (Jd x m n).take m = List.replicate m x := by
 unfold Jd
 rw [List.take_left' (by simp)]
theorem XE (x : Int) (n : Nat) : Jd x n n = List.replicate n x := by simp [Jd]
theorem A3f {x : Int} {n : Nat} (h : 0 < n) : List.take (min 1 n) [[VV.i IntKind.i64 x]] ++ List.map eI (List.drop (min 1 n) (List.replicate n 0)) = (Jd x 1 n).map eI := by
 rw [show min 1 n = 1 by omega]
 simp [Jd]
theorem YV {x : Int} {m n : Nat} (h : m ≤ n) : (List.replicate m x).map eI ++ ((List.take (min m (n - m)) (List.replicate m x)).map eI ++ (List.drop (m + min m (n - m)) (Jd x m n)).map eI) = (Jd x (m + min m (n - m)) n).map eI := by
 unfold Jd
 rw [← List.map_append, ← List.map_append, List.take_replicate, List.drop_append]
 simp only [List.length_replicate, List.drop_replicate]
 rw [show min (min m (n - m)) m = min m (n - m) by omega, show m - (m + min m (n - m)) = 0 by omega, List.replicate_zero, List.nil_append, show m + min m (n - m) - m = min m (n - m) by omega,
  ← List.append_assoc, List.replicate_append_replicate, show n - m - min m (n - m) = n - (m + min m (n - m)) by omega]
theorem AeX (l : List Int) : ((l.map eI).all fun r => r.all VV.cell) = true := by
 rw [List.all_eq_true]
 intro r hr
 obtain ⟨x, _, rfl⟩ := List.mem_map.1 hr
 rfl
section
variable {V : Al} (C : AB V) {Q : VV → Prop}
include C
theorem V0 {n : Nat} (hn : n ≤ 64) : VP V Qb [vW 1#64, .i .u64 (n : Int)] Q ↔ Q (.tu [vW 0#64, .i .u64 (n : Int)]) :=
 Aa (Hu (a := ⟨Qb, [.i .u64 1, .i .u64 (n : Int)], .tu [.i .u64 0, .i .u64 (n : Int)]⟩) (.of (.leaf C.c_z148) (.leaf C.h_z115) C.c_mathbits_TrailingZeros64) C.c_z119.1 C.c_z119.2 .nil (A5M ⟨n, by omega⟩))
set_option maxHeartbeats 4000000 in
theorem MD (x : Int) {n : Nat} (hn : n ≤ 64) (h0 : 0 < n) (b : Nat) {Q : VV → VH → Prop} : VP1 V A0K [.ls [[.i .i64 x]], .i .i64 n] b Q ↔ Q (.sl b 0 0 n) [some ⟨Bj, 1, 0, false, (List.replicate n x).map eI⟩] := by
 refine MU ?_
 rw [MG C.c_z76.2]
 have b1 : n * 8 ≤ A6 := by unfold A6; omega
 have q1 : ¬ (n : Int) < 0 := by omega
 have q2 : ¬ ((n : Int) : Int) > 9223372036854775807 := by omega
 have q3 : IntKind.u64.wrap (n : Int) = n := by
  rw [show IntKind.u64.wrap (n : Int) = (n : Int) % 18446744073709551616 from rfl]; omega
 have q4 : IntKind.i64.wrap (n : Int) = n := AS (by omega) (by omega)
 have q5 : IntKind.u64.wrap 1 = 1 := rfl
 have q7 : B4 .gtr none (vW 0#64) (vW 0#64) = some (.b false) := rfl
 have q6 : ¬ (9223372036854775807 : Int) < (n : Int) := by omega
 simp only [A6E, Ng, go_sem, ↓reduceIte, b1, q1, q2, q3, q4, V0 C hn, Int.le_refl, q5, q6, q7, Int.toNat_natCast]
 unfold VL
 rw [A0]
 refine AQ (M := Nat) (I := fun m F h => 0 < m ∧ m ≤ n ∧ A1.tmp F 7 = .sl 0 0 0 n ∧ A1.tmp F 8 = .i .i64 m ∧ h = [some ⟨Bj, 1, 0, false, (Jd x m n).map eI⟩]) (μ := fun m => n - m) ?_ 1 _ _ ⟨by omega, by omega, ?_, ?_, ?_⟩
 ·rintro m F h ⟨m0, mn, p7, p8, rfl⟩
  by_cases c : m < n
  ·have c1 : (m : Int) < (n : Int) := by omega
   have hl := A36 (x := x) mn
   have hcp := YV (x := x) mn
   have e1 : min m n = m := by omega
   have e2 : decide (m + (n - m) ≤ n) = true := decide_eq_true (by omega)
   have e3 : IntKind.i64.wrap ((m : Int) + ((min m (n - m) : Nat) : Int)) = ((m + min m (n - m) : Nat) : Int) := by rw [AS (by omega) (by omega)]; omega
   simp only [Za, Ng, go_sem, ↓reduceIte, p7, p8, c1, A0, hl, mn, Yo mn, e1, e2, hcp, e3, AeX]
   exact ⟨m + min m (n - m), by omega, by omega, by omega, rfl, rfl⟩
  ·have c1 : ¬ (m : Int) < (n : Int) := by omega
   have e : m = n := by omega
   subst e
   simp only [Za, Ng, go_sem, ↓reduceIte, p7, p8, c1, A0, XE, Bh]
   simp
 ·simp only [Ng, go_sem, ↓reduceIte]
 ·simp only [Ng, go_sem, ↓reduceIte]
  omega
 ·rw [A3f h0]
end
end Go.AM

namespace Go.AM
open Go Go.Proofs
abbrev eSn (t : A3) (x f : List Int) : List VV := [.i .i64 t.vals, lS t.locs, .ls (t.regs.map J2), .ls (t.nodes.map eN), vW (Cg x), lI (onL t x f), lW (Bc t.nodes.length fun a b => AD t a b)]
abbrev RJ (t : A3) (x f : List Int) : VV := .fp (eSn t x f) 0
section
variable {V : Al} (C : AB V) {Q : VV → Prop}
include C
theorem Qe (n : Aw) : VP V Qv [vN n] Q ↔ Q (.b (M3 n)) := by
 refine Aa ?_
 rw [A9 C.c_z141.1 C.c_z141.2]
 cases c0 : decide (n.kind = 3) <;> cases c1 : decide (0 ≤ n.thread) <;> cases c4 : decide (n.kind = 4) <;> cases c2 : decide (n.mode = 2) <;> cases c3 : decide (n.mode = 3) <;>
  simp only [ZT, Sv, go_sem, ↓reduceIte, c0, c1, c2, c3, c4, M3]
theorem NY (n : Aw) : VP V PW [vN n] Q ↔ Q (.b (LV n)) := by
 refine Aa ?_
 rw [A9 C.c_z103.1 C.c_z103.2]
 cases c0 : decide (n.kind = 2) <;> cases c1 : decide (n.kind = 4) <;> cases c2 : decide (n.mode = 1) <;> cases c3 : decide (n.mode = 3) <;>
  simp only [Yt, Us, go_sem, ↓reduceIte, c0, c1, c2, c3, LV]
theorem H7 (t : A3) (x f : List Int) {n : Nat} (hn : n < t.nodes.length) : VP V Uq [RJ t x f, .i .i64 n] Q ↔ Q (.b (decide (0 ≤ (t.at n).thread))) := by
 refine Aa ?_
 rw [A9 C.c_z100.1 C.c_z100.2]
 simp only [Y2, TF, go_sem, ↓reduceIte, A5 hn]
theorem PV (t : A3) (x f : List Int) {n : Nat} (hn : n < t.nodes.length) {g : Nat} {p : Bool} (hg : ∀ Q : VV → Prop, VP V g [vN (t.at n)] Q ↔ Q (.b p)) : VP V Tz [RJ t x f, .i .i64 n, .f g [] []] Q ↔ Q (.b (decide ((t.at n).kind = 4) && p)) := by
 refine Aa ?_
 rw [A9 C.c_z104.1 C.c_z104.2]
 cases c : decide ((t.at n).kind = 4) <;> simp only [ZC, TH, go_sem, ↓reduceIte, A5 hn, c, hg]
theorem T8 (t : A3) (ht : A8 t) (x f : List Int) (hx : Co t x) {n : Nat} (hn : n < t.nodes.length) : VP V SS [RJ t x f, .i .i64 n] Q ↔ Q (.i .i64 (Xz t x f n)) := by
 refine Aa ?_
 rw [A9 C.c_z102.1 C.c_z102.2]
 have hh := hx.has ht.n64
 unfold Xz
 rw [Int.toNat_natCast]
 cases c : (t.at n).rmw with
 | false => simp only [Py, My, go_sem, ↓reduceIte, A5 hn, c, Bool.false_eq_true, false_and]
 | true =>
  cases c2 : Bd x (t.at n).up with
  | false => simp only [Py, My, go_sem, ↓reduceIte, A5 hn, c, AJ C, hh, c2, Bool.false_eq_true, and_false]
  | true =>
   obtain ⟨m, hm1, hm⟩ := Aj (hx _ (A7.1 c2))
   rw [hm1] at c2 ⊢
   simp only [Py, My, go_sem, ↓reduceIte, A5 hn, c, AJ C, hh, c2, hm1, HF hm, and_self]
theorem TL (t : A3) (ht : A8 t) (x f : List Int) (hx : Co t x) {n : Nat} (hn : n < t.nodes.length) : VP V A0v [RJ t x f, .i .i64 n] Q ↔ Q (.b (J7 t x f n)) := by
 refine Aa ?_
 rw [A9 C.c_z93.1 C.c_z93.2]
 have hh := hx.has ht.n64
 unfold J7
 rw [Int.toNat_natCast]
 cases c : decide ((t.at n).kind = 2) with
 | false =>
  have c' := of_decide_eq_false c
  simp only [Vu, RM, go_sem, ↓reduceIte, A5 hn, c, HF hn, c']
 | true =>
  have c' := of_decide_eq_true c
  cases c2 : Bd x (HC x f n) with
  | false => simp only [Vu, RM, go_sem, ↓reduceIte, A5 hn, c, HF hn, c', AJ C, hh, c2, Bool.false_and]
  | true =>
   obtain ⟨m, hm1, hm⟩ := Aj (hx _ (A7.1 c2))
   rw [hm1] at c2 ⊢
   cases c3 : decide ((t.at m).kind = 3) <;> simp only [Vu, RM, go_sem, ↓reduceIte, A5 hn, c, HF hn, c', AJ C, hh, c2, hm1, A5 hm, c3, Hx, Int.toNat_natCast, Bool.true_and, Bool.false_and]
set_option maxHeartbeats 4000000 in
theorem Yk (t : A3) (ht : A8 t) (x f : List Int) (hx : Co t x) {w : Nat} (hw : w < t.nodes.length) : VP V Sc [RJ t x f, .i .i64 w] Q ↔ Q (vW (M8 t x w)) := by
 refine Aa ?_
 rw [A9 C.c_z101.1 C.c_z101.2]
 have h64 := ht.n64
 have hll := Dw (Cg x)
 obtain ⟨s0, hs0, hb0⟩ : ∃ s0, s0 = (if M3 (t.at w) = true then 0#64 ||| Cy (w : Int) else 0#64) ∧ ∀ j, j < 64 → s0.getLsbD j = (decide (j = w) && M3 (t.at w)) := by
  refine ⟨_, rfl, fun j hj => ?_⟩
  by_cases c : M3 (t.at w) = true
  ·have e : decide ((j : Int) = (w : Int) ∧ j < 64) = decide (j = w) := decide_eq_decide.2 ⟨fun h => by omega, fun h => ⟨by omega, hj⟩⟩
   rw [if_pos c, BitVec.getLsbD_or, CW, e, c]; simp
  ·rw [if_neg c, Bool.eq_false_iff.2 c]; simp
 let p : Int → Bool := fun n => decide ((t.at n.toNat).kind = 4) && M3 (t.at n.toNat) && AD t n w
 have hfin : Ef p s0 (AK (Cg x)) = M8 t x w := by
  apply C1
  intro j hj
  rw [S1 p j hj, hb0 j hj, M8, AA, A6b, decide_eq_true hj, Bool.and_true]
  have e1 : Bd (AK (Cg x)) (j : Int) = Bd x (j : Int) := by
   rw [Bool.eq_iff_iff, A7, A7]; exact hx.list h64 _
  have e2 : (decide (j = w) && M3 (t.at w)) = (decide ((j : Int) = (w : Int)) && M3 (t.at j)) := by
   by_cases c : j = w
   ·subst c; simp
   ·have c' : ¬ (j : Int) = (w : Int) := by omega
    simp [c, c']
  rw [e1, e2]
  simp only [p, Int.toNat_natCast, Bool.and_assoc]
 cases c0 : M3 (t.at w) <;> simp only [c0, Bool.false_eq_true, if_true, if_false] at hs0 <;> (
 simp only [ZL, Gi, go_sem, ↓reduceIte, A5 hw, Qe C, Cw C, Dr C, c0, ← hs0]
 refine Ac (by decide) (AK (Cg x)).length (by omega) (I := fun k F h => A1.tmp F 0 = RJ t x f ∧ A1.tmp F 1 = .i .i64 w ∧ A1.tmp F 24 = lI (AK (Cg x)) ∧ h = [] ∧ A1.tmp F 5 = vW (Ef p s0 ((AK (Cg x)).take k))) ?_ ?_ 0 _ _ (by omega) ?_ ?_ ?_
 ·rintro k F h hk p26 p25 ⟨p0, p1, p24, rfl, p5⟩
  obtain ⟨m, hm1, hm⟩ := Aj (hx _ ((hx.list h64 _).1 (Aq (d := 0) hk)))
  have hT : Ef p s0 ((AK (Cg x)).take (k + 1)) = if p m = true then Ef p s0 ((AK (Cg x)).take k) ||| Cy m else Ef p s0 ((AK (Cg x)).take k) := by rw [Q0 hk, hm1]
  have hp : p m = (decide ((t.at m).kind = 4) && M3 (t.at m) && AD t m w) := by simp only [p, Int.toNat_natCast]
  have hbar := fun (Q : VV → Prop) => PV C t x f hm (g := Qv) (p := M3 (t.at m)) (fun Q => Qe C (t.at m)) (Q := Q)
  rw [hT, hp]
  cases c1 : (decide ((t.at m).kind = 4) && M3 (t.at m)) with
  | false => simp only [Gi, go_sem, ↓reduceIte, p26, p25, p0, p1, p24, p5, Au hk, hk, hm1, hbar, c1, A0, Bool.false_and, Bool.false_eq_true]
  | true =>
   have hpo := Vv (p := fun a b => AD t a b) h64 hm hw
   rw [HS hm] at hpo
   have hg := G9 (n := t.nodes.length) (p := fun a b => AD t a b) hm
   cases c2 : AD t m w with
   | false =>
    rw [c2] at hpo
    simp only [Gi, go_sem, ↓reduceIte, p26, p25, p0, p1, p24, p5, Au hk, hk, hm1, hbar, c1, A0, hg, AJ C, hpo, Bool.and_false, Bool.false_eq_true]
   | true =>
    rw [c2] at hpo
    simp only [Gi, go_sem, ↓reduceIte, p26, p25, p0, p1, p24, p5, Au hk, hk, hm1, hbar, c1, A0, hg, AJ C, hpo, Cw C, Bool.and_self]
 ·rintro F h ⟨p0, p1, p24, rfl, p5⟩
  simp only [Gi, go_sem, ↓reduceIte, p0, p1, p24, p5, List.take_length, hfin]
 ·simp only [Gi, go_sem, ↓reduceIte]
 ·simp only [Gi, go_sem, ↓reduceIte]
 ·simp only [Gi, go_sem, ↓reduceIte]
  rfl)
set_option maxHeartbeats 4000000 in
theorem VX (t : A3) (ht : A8 t) (x f : List Int) (hx : Co t x) {r : Nat} (hr : r < t.nodes.length) : VP V Pi [RJ t x f, .i .i64 r] Q ↔ Q (vW (BA (HX t x r))) := by
 refine Aa ?_
 rw [A9 C.c_z60.1 C.c_z60.2]
 have h64 := ht.n64
 let X := Cg x &&& BA fun b => decide (b < t.nodes.length) && AD t r b
 have hX : X = Cg x &&& BA fun b => decide (b < t.nodes.length) && AD t r b := rfl
 have hll := Dw X
 have hg := G9 (n := t.nodes.length) (p := fun a b => AD t a b) hr
 have hXm : ∀ y : Int, y ∈ AK X ↔ y ∈ x ∧ AD t r y = true := by
  intro y
  rw [E9]
  constructor
  ·intro h
   obtain ⟨h1, h2⟩ := Hr h
   obtain ⟨m, rfl⟩ := Int.eq_ofNat_of_zero_le h1
   rw [B0, hX, BitVec.getLsbD_and, AA, Bool.and_eq_true, Bool.and_eq_true, Bool.and_eq_true] at h
   exact ⟨by rw [← A7, ← hx.has h64, B0]; exact h.1, h.2.1.2⟩
  ·rintro ⟨h1, h2⟩
   obtain ⟨m, rfl, hm⟩ := Aj (hx _ h1)
   rw [B0, hX, BitVec.getLsbD_and, AA, h2, ← B0, hx.has h64, A7.2 h1, decide_eq_true hm, decide_eq_true (show m < 64 by omega)]; rfl
 obtain ⟨s0, hs0, hb0⟩ : ∃ s0, s0 = (if LV (t.at r) = true then 0#64 ||| Cy (r : Int) else 0#64) ∧ ∀ j, j < 64 → s0.getLsbD j = (decide (j = r) && LV (t.at r)) := by
  refine ⟨_, rfl, fun j hj => ?_⟩
  by_cases c : LV (t.at r) = true
  ·have e : decide ((j : Int) = (r : Int) ∧ j < 64) = decide (j = r) := decide_eq_decide.2 ⟨fun h => by omega, fun h => ⟨by omega, hj⟩⟩
   rw [if_pos c, BitVec.getLsbD_or, CW, e, c]; simp
  ·rw [if_neg c, Bool.eq_false_iff.2 c]; simp
 let p : Int → Bool := fun n => decide ((t.at n.toNat).kind = 4) && LV (t.at n.toNat)
 have hfin : Ef p s0 (AK X) = BA (HX t x r) := by
  apply C1
  intro j hj
  rw [S1 p j hj, hb0 j hj, AA, HX, decide_eq_true hj, Bool.and_true]
  have e1 : Bd (AK X) (j : Int) = (Bd x (j : Int) && AD t r j) := by
   rw [Bool.eq_iff_iff, A7, hXm, Bool.and_eq_true, A7]
  have e2 : (decide (j = r) && LV (t.at r)) = (decide ((j : Int) = (r : Int)) && LV (t.at j)) := by
   by_cases c : j = r
   ·subst c; simp
   ·have c' : ¬ (j : Int) = (r : Int) := by omega
    simp [c, c']
  rw [e1, e2]
  simp only [p, Int.toNat_natCast]
  cases Bd x (j : Int) <;> cases AD t r j <;> simp
 cases c0 : LV (t.at r) <;> simp only [c0, Bool.false_eq_true, if_true, if_false] at hs0 <;> (
 simp only [A4l, KM, go_sem, ↓reduceIte, A5 hr, NY C, Cw C, Dr C, c0, hg, ← hs0, ← hX]
 refine Ac (by decide) (AK X).length (by omega) (I := fun k F h => A1.tmp F 0 = RJ t x f ∧ A1.tmp F 32 = lI (AK X) ∧ h = [] ∧ A1.tmp F 5 = vW (Ef p s0 ((AK X).take k))) ?_ ?_ 0 _ _ (by omega) ?_ ?_ ?_
 ·rintro k F h hk p34 p33 ⟨p0, p32, rfl, p5⟩
  obtain ⟨m, hm1, hm⟩ := Aj (hx _ ((hXm _).1 (Aq (d := 0) hk)).1)
  have hT : Ef p s0 ((AK X).take (k + 1)) = if p m = true then Ef p s0 ((AK X).take k) ||| Cy m else Ef p s0 ((AK X).take k) := by rw [Q0 hk, hm1]
  have hp : p m = (decide ((t.at m).kind = 4) && LV (t.at m)) := by simp only [p, Int.toNat_natCast]
  have hbar := fun (Q : VV → Prop) => PV C t x f hm (g := PW) (p := LV (t.at m)) (fun Q => NY C (t.at m)) (Q := Q)
  rw [hT, hp]
  cases c1 : (decide ((t.at m).kind = 4) && LV (t.at m)) with
  | false => simp only [KM, go_sem, ↓reduceIte, p34, p33, p0, p32, p5, Au hk, hk, hm1, hbar, c1, A0, Bool.false_eq_true]
  | true => simp only [KM, go_sem, ↓reduceIte, p34, p33, p0, p32, p5, Au hk, hk, hm1, hbar, c1, A0, Cw C]
 ·rintro F h ⟨p0, p32, rfl, p5⟩
  simp only [KM, go_sem, ↓reduceIte, p0, p32, p5, List.take_length, hfin]
 ·simp only [KM, go_sem, ↓reduceIte]
 ·simp only [KM, go_sem, ↓reduceIte]
 ·simp only [KM, go_sem, ↓reduceIte]
  rfl)
theorem A8E {t : A3} (ht : A8 t) {x f : List Int} (hF : CY t x f) {w0 : Int} (hw0 : w0 ∈ x) {i : Nat} (hoff : ∀ j, j < i → LZ t (Dm t x f j w0) = false) : Co t (Jn t x f w0 i) := by
 intro v hv
 obtain ⟨j, hj, rfl⟩ := NN.1 hv
 rcases L3 ht hF hw0 j (fun k hk => hoff k (by omega)) with e | e
 ·have := hoff j hj
  rw [e] at this; cases this
 ·exact hF.node _ e
set_option maxHeartbeats 4000000 in
theorem TN (t : A3) (ht : A8 t) (x f : List Int) (hF : CY t x f) {w0 : Int} (hw0 : w0 ∈ x) : VP V NX [RJ t x f, .i .i64 w0] Q ↔ Q (vW (BN t x f w0)) := by
 refine Aa ?_
 rw [A9 C.c_z59.1 C.c_z59.2]
 have h64 := ht.n64
 simp only [A4B, Jh, go_sem, ↓reduceIte]
 unfold VL
 rw [A0]
 refine AQ (M := Nat) (I := fun i F h => h = [] ∧ A1.tmp F 0 = RJ t x f ∧ A1.tmp F 1 = .i .i64 (Dm t x f i w0) ∧ A1.tmp F 5 = vW (Pw t x f w0 i) ∧ A1.tmp F 6 = vW (Cg (Jn t x f w0 i)) ∧ (∀ j, j < i → LZ t (Dm t x f j w0) = false) ∧ (Jn t x f w0 i).Nodup) (μ := fun i => x.length + 1 - i) ?_ 0 _ _ ⟨rfl, ?_, ?_, ?_, ?_, by omega, by simp [Jn]⟩
 ·rintro i F h ⟨rfl, p0, p1, p5, p6, hoff, hnd⟩
  have hil : i ≤ x.length := by
   have h1 : (Jn t x f w0 i).length = i := by simp [Jn]
   rw [← h1]
   refine JB _ _ hnd fun v hv => ?_
   obtain ⟨j, hj, rfl⟩ := NN.1 hv
   rcases L3 ht hF hw0 j (fun k hk => hoff k (by omega)) with e | e
   ·have := hoff j hj
    rw [e] at this; cases this
   ·exact e
  have hend := A7S ht hF hw0 hoff hnd
  rcases L3 ht hF hw0 i hoff with e | e
  ·have := hend (.inl (by rw [e]; rfl))
   rw [e] at p1
   simp only [Qn, Jh, go_sem, ↓reduceIte, p0, p1, p5, p6, A0, this]
  ·obtain ⟨m, hm1, hm⟩ := Aj (hF.node _ e)
   rw [hm1] at p1
   cases c1 : decide (0 ≤ (t.at m).thread) with
   | false =>
    have ho : LZ t (Dm t x f i w0) = true := by
     have := of_decide_eq_false c1
     rw [hm1, LZ, Int.toNat_natCast, decide_eq_true (show (t.at m).thread < 0 by omega), Bool.or_true]
    have := hend (.inl ho)
    simp only [Qn, Jh, go_sem, ↓reduceIte, p0, p1, p5, p6, A0, H7 C t x f hm, c1, this]
   | true =>
    have ho : LZ t (Dm t x f i w0) = false := by
     have := of_decide_eq_true c1
     rw [hm1, LZ, Int.toNat_natCast, decide_eq_false (show ¬ (t.at m).thread < 0 by omega), decide_eq_false (show ¬ (m : Int) < 0 by omega)]; rfl
    have hway := A8E C ht hF hw0 hoff
    have hh := hway.has h64 (m : Int)
    cases c2 : Bd (Jn t x f w0 i) (m : Int) with
    | true =>
     rw [c2] at hh
     have := hend (.inr (by rw [hm1]; exact A7.1 c2))
     simp only [Qn, Jh, go_sem, ↓reduceIte, p0, p1, p5, p6, A0, H7 C t x f hm, c1, AJ C, hh, this]
    | false =>
     rw [c2] at hh
     simp only [Qn, Jh, go_sem, ↓reduceIte, p0, p1, p5, p6, A0, H7 C t x f hm, c1, AJ C, hh, Yk C t ht x f hF.node hm, Cw C, T8 C t ht x f hF.node hm]
     refine ⟨i + 1, by omega, by rw [Dm, hm1], by rw [YY, hm1], by rw [Rw, hm1, Cg, Cg, List.foldl_append]; rfl, fun j hj => ?_, ?_⟩
     ·rcases Nat.lt_or_ge j i with h1 | h1
      ·exact hoff j h1
      ·rw [show j = i by omega]; exact ho
     ·rw [Rw, hm1]
      have : (m : Int) ∉ Jn t x f w0 i := fun h => by rw [A7.2 h] at c2; cases c2
      exact List.nodup_append.2 ⟨hnd, by simp, fun a ha b hb e => this (by simp at hb; rw [← hb, ← e]; exact ha)⟩
 ·simp only [Jh, go_sem, ↓reduceIte]
 ·simp only [Jh, go_sem, ↓reduceIte]
  rfl
 ·simp only [Jh, go_sem, ↓reduceIte]
  rfl
 ·simp only [Jh, go_sem, ↓reduceIte]
  rfl
end
end Go.AM

namespace Go.AM
open Go Go.Proofs
theorem Aiv : min 5 (4 + 3) + (1 + (4 + 3 - 6)) = 7 := rfl
theorem Tk (t : A3) (x : List Int) (k : Nat) : Ca t x k = (!(decide (x.getD k 0 < 0) || decide ((t.nodes.length : Int) ≤ x.getD k 0) || (!decide (k = 0) && decide (x.getD k 0 ≤ x.getD (k - 1) 0)))) := by
 unfold Ca BY Cs
 rw [Bool.eq_iff_iff]
 simp only [Bool.and_eq_true, Bool.or_eq_true, Bool.not_eq_true', Bool.or_eq_false_iff, decide_eq_true_eq, decide_eq_false_iff_not, Bool.and_eq_false_iff, Bool.not_eq_false']
 constructor
 ·rintro ⟨⟨a, b⟩, c⟩
  exact ⟨⟨by omega, by omega⟩, c.imp id (by omega)⟩
 ·rintro ⟨⟨a, b⟩, c⟩
  exact ⟨⟨by omega, by omega⟩, c.imp id (by omega)⟩
def onH (t : A3) (x f : List Int) (k : Nat) : VH := [some ⟨Bj, 1, 0, false, (UM t x f k).map eI⟩, some ⟨Nf, 0, 0, false, [[.i .i64 t.vals, lS t.locs, .ls (t.regs.map J2), .ls (t.nodes.map eN), vW (Cg x), .sl 0 0 0 t.nodes.length, lW (Bc t.nodes.length fun a b => AD t a b)]]⟩]
def A5h (t : A3) (x f : List Int) : VH := [some ⟨Bj, 1, 0, false, (onL t x f).map eI⟩, some ⟨Nf, 0, 0, false, [[.i .i64 t.vals, lS t.locs, .ls (t.regs.map J2), .ls (t.nodes.map eN), vW (Cg x), .sl 0 0 0 t.nodes.length, lW (Bc t.nodes.length fun a b => AD t a b)]]⟩]
theorem A8y (t : A3) (x f : List Int) : onH t x f x.length = A5h t x f := by rw [onH, A9c]; rfl
theorem A2y {t : A3} {x f : List Int} {k m : Nat} (h : m < t.nodes.length) : (UM t x f k)[m]? = some (HC (x.take k) f (m : Int)) := by simp [UM, h]
theorem Q2 (t : A3) (x f : List Int) : (onL t x f).take t.nodes.length = onL t x f := List.take_of_length_le (by rw [NH]; omega)
section
variable {V : Al} (C : AB V) {Q : VV → Prop}
include C
set_option maxHeartbeats 8000000 in
theorem A3j (t : A3) (ht : A8 t) (x f : List Int) (hF : CY t x f) : VP V A0W [RJ t x f, .f NX [RJ t x f] [], .f Pi [RJ t x f] []] Q ↔ Q (lW (Bc t.nodes.length (swB t x f))) := by
 refine Aa ?_
 rw [A9 C.c_z58.1 C.c_z58.2]
 have h64 := ht.n64
 have hx := hF.node
 have hll := Dw (Cg x)
 have hLm := fun y => hx.list h64 y
 simp only [A4i, EC, go_sem, ↓reduceIte, Y8 C _ h64, Dr C]
 refine Ac (by decide) (AK (Cg x)).length (by omega) (I := fun k F h => A1.tmp F 0 = RJ t x f ∧ A1.tmp F 1 = .f NX [RJ t x f] [] ∧ A1.tmp F 2 = .f Pi [RJ t x f] [] ∧ A1.tmp F 7 = .sl 0 0 0 t.nodes.length ∧ A1.tmp F 24 = lI (AK (Cg x)) ∧ h = [some ⟨Cm, 1, 0, false, (Bc t.nodes.length (ZY t x f ((AK (Cg x)).take k))).map eW⟩]) ?_ ?_ 0 _ _ (by omega) ?_ ?_ ?_
 ·rintro k F h hk p26 p25 ⟨p0, p1, p2, p7, p24, rfl⟩
  have hkm : (AK (Cg x)).getD k 0 ∈ x := (hLm _).1 (Aq (d := 0) hk)
  obtain ⟨r, hr1, hr⟩ := Aj (hx _ hkm)
  have hrx : (r : Int) ∈ x := by rw [← hr1]; exact hkm
  have hnext : ∀ a b, ZY t x f ((AK (Cg x)).take (k + 1)) a b = (ZY t x f ((AK (Cg x)).take k) a b || (Kw t x f r && BR (BN t x f (HC x f r)) (a : Int) && HX t x r b)) := fun a b => by rw [A5u hk, hr1]
  have same : Kw t x f r = false → Bc t.nodes.length (ZY t x f ((AK (Cg x)).take k)) = Bc t.nodes.length (ZY t x f ((AK (Cg x)).take (k + 1))) := fun e => DZ fun a b _ _ => by rw [hnext, e]; simp
  have hsaw : Kw t x f r = (decide ((t.at r).kind = 2) && !decide ((t.at (HC x f r).toNat).thread = (t.at r).thread)) := by rw [Kw, Int.toNat_natCast]
  by_cases ck : (t.at r).kind = 2
  ·obtain ⟨o1, o2, o3⟩ := hF.read _ hrx (by rw [Int.toNat_natCast]; exact ck)
   obtain ⟨w, hw1, hw⟩ := Aj (hx _ o1)
   rw [hw1] at o1
   have d0 : decide ((w : Int) < 0) = false := decide_eq_false (by omega)
   cases c2 : decide ((t.at w).thread = (t.at r).thread) with
   | true =>
    have hs := same (by rw [hsaw, hw1, Int.toNat_natCast, c2]; simp)
    simp only [EC, go_sem, ↓reduceIte, p26, p25, p0, p1, p2, p7, p24, Au hk, hk, hr1, HF hr, hw1, d0, A5 hw, A5 hr, c2, A0, hs]
   | false =>
    have hs : Kw t x f r = true := by rw [hsaw, hw1, Int.toNat_natCast, c2, decide_eq_true ck]; rfl
    have hh := fun (Q : VV → Prop) => TN C t ht x f hF o1 (Q := Q)
    simp only [EC, go_sem, ↓reduceIte, p26, p25, p0, p1, p2, p7, p24, Au hk, hk, hr1, HF hr, hw1, d0, A5 hw, A5 hr, c2, A0, hh, Dr C]
    have hlh := Dw (BN t x f w)
    have hends := fun (Q : VV → Prop) => VX C t ht x f hx hr (Q := Q)
    let M := fun (j : Nat) (a b : Nat) => ZY t x f ((AK (Cg x)).take k) a b || (Bd ((AK (BN t x f w)).take j) (a : Int) && HX t x r b)
    refine Ac (by decide) (AK (BN t x f w)).length (by omega) (I := fun j F h => A1.tmp F 26 = .i .i64 k ∧ A1.tmp F 25 = .i .i64 (AK (Cg x)).length ∧ A1.tmp F 0 = RJ t x f ∧ A1.tmp F 1 = .f NX [RJ t x f] [] ∧ A1.tmp F 2 = .f Pi [RJ t x f] [] ∧ A1.tmp F 7 = .sl 0 0 0 t.nodes.length ∧ A1.tmp F 24 = lI (AK (Cg x)) ∧ A1.tmp F 9 = .i .i64 r ∧ A1.tmp F 63 = lI (AK (BN t x f w)) ∧ h = [some ⟨Cm, 1, 0, false, (Bc t.nodes.length (M j)).map eW⟩]) ?_ ?_ 0 _ _ (by omega) ?_ ?_ ?_
    ·rintro j F h hj q65 q64 ⟨q26, q25, q0, q1, q2, q7, q24, q9, q63, rfl⟩
     have hmem := (E9 (s := BN t x f w)).1 (Aq (d := 0) hj)
     obtain ⟨a0, _⟩ := Hr hmem
     obtain ⟨a, ha1⟩ := Int.eq_ofNat_of_zero_le a0
     have ha : a < t.nodes.length := YD ht hF o1 (by rw [ha1, B0] at hmem; exact hmem)
     have hset := A3V ha (M j) (HX t x r) fun b hb => A2J hx hrx hb
     have hM : Bc t.nodes.length (fun i b => M j i b || (decide (i = a) && HX t x r b)) = Bc t.nodes.length (M (j + 1)) := DZ fun i b _ _ => by
      simp only [M]
      rw [List.take_succ_eq_append_getElem hj]
      have e : Bd ((AK (BN t x f w)).take j ++ [(AK (BN t x f w))[j]]) (i : Int) = (Bd ((AK (BN t x f w)).take j) (i : Int) || decide (i = a)) := by
       rw [List.getD_eq_getElem?_getD, List.getElem?_eq_getElem hj, Option.getD_some] at ha1
       rw [ha1, Bool.eq_iff_iff, A7, List.mem_append, Bool.or_eq_true, A7, decide_eq_true_eq, List.mem_singleton]
       exact ⟨fun h => h.imp id fun h => by omega, fun h => h.imp id fun h => by omega⟩
      rw [e]
      cases ZY t x f ((AK (Cg x)).take k) i b <;> cases Bd ((AK (BN t x f w)).take j) (i : Int) <;> cases decide (i = a) <;> cases HX t x r b <;> rfl
     rw [hM] at hset
     simp only [EC, go_sem, ↓reduceIte, q65, q64, q26, q25, q0, q1, q2, q7, q24, q9, q63, Au hj, hj, ha1, G9 ha, hends, A0, hset, CC, ha]
    ·rintro F h ⟨q26, q25, q0, q1, q2, q7, q24, q9, q63, rfl⟩
     have hM : Bc t.nodes.length (M (AK (BN t x f w)).length) = Bc t.nodes.length (ZY t x f ((AK (Cg x)).take (k + 1))) := DZ fun a b _ _ => by
      simp only [M]
      rw [List.take_length, hnext, hs, hw1, Bool.true_and]
      have e : Bd (AK (BN t x f w)) (a : Int) = BR (BN t x f w) (a : Int) := by rw [Bool.eq_iff_iff, A7, E9]
      rw [e]
     simp only [EC, go_sem, ↓reduceIte, q26, q25, q0, q1, q2, q7, q24, hM]
    ·simp only [EC, go_sem, ↓reduceIte]
    ·simp only [EC, go_sem, ↓reduceIte]
    ·simp only [EC, go_sem, ↓reduceIte, p26, p25, p0, p1, p2, p7, p24]
     have hM : Bc t.nodes.length (M 0) = Bc t.nodes.length (ZY t x f ((AK (Cg x)).take k)) := DZ fun a b _ _ => by simp only [M, List.take_zero, Bd, List.any_nil, Bool.false_and, Bool.or_false]
     rw [hM]
  ·have o1 := hF.none _ hrx (by rw [Int.toNat_natCast]; exact ck)
   have hs := same (by rw [hsaw, decide_eq_false ck]; rfl)
   simp only [EC, go_sem, ↓reduceIte, p26, p25, p0, p1, p2, p7, p24, Au hk, hk, hr1, HF hr, o1, A0]
   rw [hs]
 ·rintro F h ⟨p0, p1, p2, p7, p24, rfl⟩
  have e : Bc t.nodes.length (ZY t x f (AK (Cg x))) = Bc t.nodes.length (swB t x f) := DZ fun a b _ _ => A8L hLm a b
  simp only [EC, go_sem, ↓reduceIte, p0, p1, p2, p7, p24, CC]
  rw [List.take_of_length_le (by rw [CC]; omega), e]
 ·simp only [EC, go_sem, ↓reduceIte]
 ·simp only [EC, go_sem, ↓reduceIte]
 ·simp only [EC, go_sem, ↓reduceIte]
  rw [← A3t]; rfl
set_option maxHeartbeats 8000000 in
theorem A3J (t : A3) (ht : A8 t) (x f : List Int) (hl : x.length ≤ 1000) (hlf : f.length ≤ 1000) : VP V A1J [vT t, lI x, lI f] Q ↔ Q (if El t x f = true then .tu [RJ t x f, .b true] else .tu [.np, .b false]) := by
 refine Aa ?_
 rw [A9 C.c_z54.1 C.c_z54.2]
 have h64 := ht.n64
 have hn1 : 0 < t.nodes.length := by
  obtain ⟨s, h0, he, hs⟩ := ht.thr
  have h1 := ht.r1
  obtain ⟨_, n, hB⟩ := hs 0 (by omega)
  cases n with
  | zero => exact absurd hB (by simp [Jc])
  | succ n => have := hB.1.1; omega
 have hmay := fun (Q : VV → Prop) => Mo C t ht (Q := Q)
 have hpo := fun (Q : VV → Prop) => A38 C t ht (Q := Q)
 by_cases c1 : x.length = f.length
 ·have c1' : decide ((f.length : Int) = (x.length : Int)) = true := decide_eq_true (by omega)
  simp only [A1h, Dt, go_sem, ↓reduceIte, hmay, c1', HA C x (by omega), MD C _ h64 hn1, hpo, Af6, Aiv]
  refine Ac (by decide) x.length (by omega) (I := fun k F h => A1.tmp F 1 = lI x ∧ A1.tmp F 2 = lI f ∧ A1.tmp F 3 = .fp (eT t) 0 ∧ A1.tmp F 8 = .p 1 0 0 0 ∧ A1.tmp F 35 = lI x ∧ h = onH t x f k ∧ ∀ j, j < k → Ca t x j = true) ?_ ?_ 0 _ _ (by omega) ?_ ?_ ?_
  ·rintro k F h hk p37 p36 ⟨p1, p2, p3, p8, p35, rfl, pr⟩
   have hkf : k < f.length := by omega
   have bad : Ca t x k = false → El t x f = false := fun h => by rw [El, AY hk h]; simp
   have hnr := Tk t x k
   cases d1 : decide (x.getD k 0 < 0) with
   | true =>
    have e := bad (by rw [hnr, d1]; rfl)
    simp only [Dt, go_sem, ↓reduceIte, p37, p36, p1, p2, p3, p8, p35, Au hk, hk, d1, A0, e]
   | false =>
   cases d2 : decide ((t.nodes.length : Int) ≤ x.getD k 0) with
   | true =>
    have e := bad (by rw [hnr, d1, d2]; rfl)
    simp only [Dt, go_sem, ↓reduceIte, p37, p36, p1, p2, p3, p8, p35, Au hk, hk, d1, d2, A0, e]
   | false =>
   have d1' := of_decide_eq_false d1
   have d2' := of_decide_eq_false d2
   obtain ⟨m, hm1⟩ := Int.eq_ofNat_of_zero_le (show 0 ≤ x.getD k 0 by omega)
   have hm : m < t.nodes.length := by omega
   have d2n : decide (t.nodes.length ≤ m) = false := decide_eq_false (by omega)
   have hset : (∀ i, i ≤ k → Cs x i = true) → _ := A8T (t := t) (f := f) hk hm1 hm
   have hris0 : ∀ i, i < k → Cs x i = true := fun i hi => by have := pr i hi; simp only [Ca, Bool.and_eq_true] at this; exact this.2
   have hgo : Ca t x k = true → ∀ j, j < k + 1 → Ca t x j = true := fun h j hj => by
    rcases Nat.lt_or_ge j k with c | c
    ·exact pr j c
    ·rw [show j = k by omega]; exact h
   by_cases z : k = 0
   ·subst z
    have hok : Ca t x 0 = true := by rw [hnr, d1, d2]; rfl
    have hs := hset fun i hi => by rw [Nat.le_zero.1 hi]; rfl
    rw [hm1] at d1 d2
    simp only [Dt, go_sem, ↓reduceIte, p37, p36, p1, p2, p3, p8, p35, Au hk, Au hkf, hk, hkf, d1, d2n, A0, hm1, onH, hm, A0d, dz0, hs, A2y hm]
    exact hgo hok
   ·have z0 : decide ((0 : Int) < (k : Int)) = true := decide_eq_true (by omega)
    have hk1 : k - 1 < x.length := by omega
    have zw := G4 (show 0 < k by omega) (by omega)
    cases d3 : decide (x.getD k 0 ≤ x.getD (k - 1) 0) with
    | true =>
     have e := bad (by rw [hnr, d1, d2, d3, decide_eq_false z]; rfl)
     rw [hm1] at d1 d2 d3
     simp only [Dt, go_sem, ↓reduceIte, p37, p36, p1, p2, p3, p8, p35, Au hk, Au hk1, hk, d1, d2n, d3, z0, zw, A0, hm1, e]
    | false =>
     have hok : Ca t x k = true := by rw [hnr, d1, d2, d3]; simp
     have hs := hset fun i hi => by
      rcases Nat.lt_or_ge i k with c | c
      ·exact hris0 i c
      ·rw [show i = k by omega]; simp only [Ca, Bool.and_eq_true] at hok; exact hok.2
     rw [hm1] at d1 d2 d3
     simp only [Dt, go_sem, ↓reduceIte, p37, p36, p1, p2, p3, p8, p35, Au hk, Au hk1, Au hkf, hk, hkf, d1, d2n, d3, z0, zw, A0, hm1, onH, hm, A0d, hs, A2y hm]
     exact hgo hok
  ·rintro F h ⟨p1, p2, p3, p8, p35, rfl, pr⟩
   rw [A8y]
   have hnode : Co t x := by
    intro n hn
    obtain ⟨i, hi, rfl⟩ := List.getElem_of_mem hn
    have := pr i hi
    simp only [Ca, Bool.and_eq_true] at this
    have h2 := this.1
    rwa [List.getD_eq_getElem?_getD, List.getElem?_eq_getElem hi] at h2
   simp only [Dt, go_sem, ↓reduceIte, p1, p2, p3, p8, p35]
   refine Ac (by decide) x.length (by omega) (I := fun k F h => A1.tmp F 8 = .p 1 0 0 0 ∧ A1.tmp F 75 = lI x ∧ h = A5h t x f ∧ ∀ j, j < k → J7 t x f (x.getD j 0) = true) ?_ ?_ 0 _ _ (by omega) ?_ ?_ ?_
   ·rintro k F h hk p77 p76 ⟨p8, p75, rfl, qr⟩
    have bad : J7 t x f (x.getD k 0) = false → El t x f = false := fun h => by rw [UW, AY (p := fun i => J7 t x f (x.getD i 0)) hk h, Bool.and_false]
    obtain ⟨m, hm1, hm⟩ := Aj (hnode _ (Aq (d := 0) hk))
    have hr := fun (Q : VV → Prop) => TL C t ht x f hnode hm (Q := Q)
    cases c2 : J7 t x f m with
    | true =>
     simp only [Dt, go_sem, ↓reduceIte, p77, p76, p8, p75, Au hk, hk, hm1, A5h, hr, c2, A0, NH, Q2]
     intro j hj
     rcases Nat.lt_or_ge j k with c | c
     ·exact qr j c
     ·rw [show j = k by omega, hm1]; exact c2
    | false =>
     have e := bad (by rw [hm1]; exact c2)
     simp only [Dt, go_sem, ↓reduceIte, p77, p76, p8, p75, Au hk, hk, hm1, A5h, hr, c2, A0, NH, Q2, e]
   ·rintro F h ⟨p8, p75, rfl, qr⟩
    have e : El t x f = true := by rw [UW, decide_eq_true c1, AR pr, AR qr]; rfl
    simp only [Dt, go_sem, ↓reduceIte, p8, p75, A5h, e, NH, Q2]
   ·simp only [Dt, go_sem, ↓reduceIte]
   ·simp only [Dt, go_sem, ↓reduceIte]
   ·simp only [Dt, go_sem, ↓reduceIte, p8]
    intro j hj; omega
  ·simp only [Dt, go_sem, ↓reduceIte]
  ·simp only [Dt, go_sem, ↓reduceIte]
  ·simp only [Dt, go_sem, ↓reduceIte, onH, A5v]
   intro j hj; omega
 ·have c1' : decide ((f.length : Int) = (x.length : Int)) = false := decide_eq_false (by omega)
  have e : El t x f = false := by rw [El, decide_eq_false c1]; rfl
  simp only [A1h, Dt, go_sem, ↓reduceIte, hmay, c1', e]
theorem Mj (t : A3) (ht : A8 t) (x f : List Int) (hl : x.length ≤ 1000) (hlf : f.length ≤ 1000) : VP V Vz [vT t, lI x, lI f] Q ↔ Q (lW (hbF t x f)) := by
 refine Aa ?_
 rw [A9 C.c_z20.1 C.c_z20.2]
 have h64 := ht.n64
 have hof := fun (Q : VV → Prop) => A3J C t ht x f hl hlf (Q := Q)
 cases c : El t x f with
 | false =>
  rw [hbF, c]
  simp only [A1f, Vy, go_sem, ↓reduceIte, hof, c, Bool.false_eq_true]
 | true =>
  have hF := Gd c
  rw [hbF, c]
  have hsw := fun (Q : VV → Prop) => A3j C t ht x f hF (Q := Q)
  simp only [A1f, Vy, go_sem, ↓reduceIte, hof, c, hsw, ZX C, A4q C, Ul C]
  rw [Yl h64, A5S h64, Ns]
  congr 2
  apply DZ
  intro a b _ _
  rw [hF.node.has h64, hF.node.has h64]
  rfl
end
end Go.AM

namespace Go.AM
open Go Go.Proofs
section
variable {V : Al} (C : AB V) {Q : VV → Prop}
include C
end
end Go.AM

namespace Go.AM
open Go Go.Proofs
section
variable {V : Al} (C : AB V) {Q : VV → VH → Prop}
include C
end
end Go.AM

namespace Go.AM
open Go Go.Proofs
abbrev Wb (n : Aw) (p : Int) : List VV := [.i .i64 n.thread, .i .i64 n.up, .i .i64 n.kind, .i .i64 n.loc, .i .i64 n.mode, .i .i64 n.val, .b n.rmw, .b n.fin, lI n.regs, .i .i64 p]
section
variable {V : Al} (C : AB V) {Q : VV → Prop}
include C
theorem QY (n : Aw) (p : Int) : VP V A0n [.ag (Wb n p)] Q ↔ Q (.b (decide (n.kind = 2) || decide (n.kind = 3))) := by
 refine Aa ?_
 rw [A9 C.c_z22.1 C.c_z22.2]
 cases c : decide (n.kind = 2) <;> simp only [A5D, A1s, go_sem, ↓reduceIte, c, Bool.true_or, Bool.false_or]
theorem Tx (a b : Aw) (p q : Int) : VP V A16 [.ag (Wb a p), .ag (Wb b q)] Q ↔ Q (.b (decide (p < q))) := by
 refine Aa ?_
 rw [A9 C.c_z23.1 C.c_z23.2]
 simp only [A76, A1M, go_sem, ↓reduceIte]
theorem UX (a b : Aw) (p q : Int) : VP V A1L [.ag (Wb a p), .ag (Wb b q)] Q ↔ Q (.b (decide (p ≤ q))) := by
 refine Aa ?_
 rw [A9 C.c_z24.1 C.c_z24.2]
 simp only [A5V, A11, go_sem, ↓reduceIte]
theorem N8 (a b : Aw) (pa pb : Int) : VP V A7k [vN a, vN b, .i .i64 pa, .i .i64 pb] Q ↔ Q (.b (DG a b pa pb)) := by
 refine Aa ?_
 rw [A9 C.c_z4.1 C.c_z4.2]
 have a1 := fun (n : Aw) (p : Int) (Q : VV → Prop) => QY C n p (Q := Q)
 have hpf : DG a b pa pb = ((!(decide (a.kind = 2) || decide (a.kind = 3)) || !(decide (b.kind = 2) || decide (b.kind = 3)) || !decide (a.loc = b.loc)) || (bif decide (b.kind = 2) then decide (pa ≤ pb) else decide (pa < pb))) := by
  unfold DG
  by_cases c : b.kind = 2 <;> simp [c]
 rw [hpf]
 cases c1 : (decide (a.kind = 2) || decide (a.kind = 3)) with
 | false =>
  simp only [Zk, WX, go_sem, ↓reduceIte, a1, c1, Bool.not_false, Bool.true_or]
 | true =>
 cases c2 : (decide (b.kind = 2) || decide (b.kind = 3)) with
 | false =>
  simp only [Zk, WX, go_sem, ↓reduceIte, a1, c1, c2, Bool.not_false, Bool.true_or, Bool.not_true, Bool.false_or]
 | true =>
 cases c3 : decide (a.loc = b.loc) with
 | false =>
  simp only [Zk, WX, go_sem, ↓reduceIte, a1, c1, c2, c3, Bool.not_false, Bool.true_or, Bool.not_true, Bool.false_or]
 | true =>
 cases c4 : decide (b.kind = 2) with
 | false =>
  have c5 : decide (b.kind = 3) = true := by rw [c4] at c2; simpa using c2
  simp only [Zk, WX, go_sem, ↓reduceIte, a1, c1, c2, c3, c4, c5, Tx C, Bool.not_true, Bool.false_or, cond_false]
 | true =>
  simp only [Zk, WX, go_sem, ↓reduceIte, a1, c1, c2, c3, c4, UX C, Bool.not_true, Bool.false_or, cond_true]
theorem QX (t : A3) (s : Ad) (hs : N7 s) {n : Nat} (hn : n < t.nodes.length) : VP V VJ [.i .i64 n, .fp (eT t) 0, .fp (Yw s) 0] Q ↔ Q (.i .i64 (Zf t s n)) := by
 refine Aa ?_
 rw [A9 C.c_z21.1 C.c_z21.2]
 unfold Zf
 rw [Int.toNat_natCast]
 cases c : decide ((t.at n).kind = 2) with
 | false =>
  rw [if_neg (of_decide_eq_false c)]
  simp only [A2x, Xp, go_sem, ↓reduceIte, A5 hn, c, KB C s hs]
 | true =>
  rw [if_pos (of_decide_eq_true c)]
  simp only [A2x, Xp, go_sem, ↓reduceIte, A5 hn, c, XG C s hs, KB C s hs]
set_option maxHeartbeats 4000000 in
theorem LG (P : Nat → Prop) (t : A3) (ht : A8 t) (r : Rows) (hr : ∀ x ∈ BH r, ∃ a b : Nat, a < t.nodes.length ∧ b < t.nodes.length ∧ P a ∧ P b ∧ x = ((a : Int), (b : Int))) (hl : (BH r).length ≤ 5000) {g : Nat} {c : List VV} (hc : Fz c) (pl : Int → Int)
  (hg : ∀ (n : Nat), n < t.nodes.length → P n → ∀ Q : VV → Prop, VP V g ([VV.i .i64 n] ++ c) Q ↔ Q (.i .i64 (pl n))) :
  VP V WZ [vT t, lW r, .f g [] c] Q ↔ Q (.b ((BH r).all fun x => DG (t.at x.1.toNat) (t.at x.2.toNat) (pl x.1) (pl x.2))) := by
 refine Aa ?_
 rw [A9 C.c_z19.1 C.c_z19.2]
 have hbel : Cn 0 c = true := Hl (hc [] 5) (fun v e => A0E e)
 have hfz8 : ∀ h, Bb (frz h 8) c = some (c, []) := fun h => hc h 5
 have hfz : ∀ h, Bb (frz h 7) c = some (c, []) := fun h => hc h 4
 simp only [A4n, KH, go_sem, ↓reduceIte, W4 C, hfz]
 refine Ac (by decide) (BH r).length (by omega) (I := fun k F h => A1.tmp F 2 = .f g [] c ∧ A1.tmp F 3 = .fp (eT t) 0 ∧ A1.tmp F 10 = lP (BH r) ∧ h = [] ∧ ∀ x ∈ (BH r).take k, DG (t.at x.1.toNat) (t.at x.2.toNat) (pl x.1) (pl x.2) = true) ?_ ?_ 0 _ _ (by omega) ?_ ?_ ?_
 ·rintro k F h hk p12 p11 ⟨p2, p3, p10, rfl, pr⟩
  obtain ⟨a, b, ha, hb, hpa, hpb, e⟩ := hr _ (List.getElem_mem hk)
  have BT : (BH r)[k]? = some ((a : Int), (b : Int)) := by rw [List.getElem?_eq_getElem hk, e]
  have ga := fun (Q : VV → Prop) => hg a ha hpa Q
  have gb := fun (Q : VV → Prop) => hg b hb hpb Q
  simp only [List.cons_append, List.nil_append] at ga gb
  cases c1 : DG (t.at a) (t.at b) (pl a) (pl b) with
  | true =>
   simp only [KH, go_sem, ↓reduceIte, p12, p11, p2, p3, p10, BT, hk, A5 ha, A5 hb, ga, gb, N8 C, c1, A0, hfz, hfz8, hbel]
   intro x hx
   rw [List.take_succ_eq_append_getElem hk] at hx
   rcases List.mem_append.1 hx with hx | hx
   ·exact pr x hx
   ·rw [List.mem_singleton.1 hx, e]; exact c1
  | false =>
   have e : ((BH r).all fun x => DG (t.at x.1.toNat) (t.at x.2.toNat) (pl x.1) (pl x.2)) = false := by
    rw [List.all_eq_false]
    exact ⟨_, List.getElem_mem hk, by rw [e, Int.toNat_natCast, Int.toNat_natCast, c1]; simp⟩
   simp only [KH, go_sem, ↓reduceIte, p12, p11, p2, p3, p10, BT, hk, A5 ha, A5 hb, ga, gb, N8 C, c1, A0, e, hfz, hfz8]
 ·rintro F h ⟨p2, p3, p10, rfl, pr⟩
  rw [List.take_length] at pr
  have e : ((BH r).all fun x => DG (t.at x.1.toNat) (t.at x.2.toNat) (pl x.1) (pl x.2)) = true := by rw [List.all_eq_true]; exact pr
  simp only [KH, go_sem, ↓reduceIte, p2, p3, p10, e]
 ·simp only [KH, go_sem, ↓reduceIte]
 ·simp only [KH, go_sem, ↓reduceIte]
 ·simp only [KH, go_sem, ↓reduceIte]
theorem TZ (t : A3) (ht : A8 t) (r : Rows) (hr : ∀ x ∈ BH r, ∃ a b : Nat, a < t.nodes.length ∧ b < t.nodes.length ∧ x = ((a : Int), (b : Int))) (hl : (BH r).length ≤ 5000) {g : Nat} {c : List VV} (hc : Fz c) (pl : Int → Int)
  (hg : ∀ (n : Nat), n < t.nodes.length → ∀ Q : VV → Prop, VP V g ([VV.i .i64 n] ++ c) Q ↔ Q (.i .i64 (pl n))) :
  VP V WZ [vT t, lW r, .f g [] c] Q ↔ Q (.b ((BH r).all fun x => DG (t.at x.1.toNat) (t.at x.2.toNat) (pl x.1) (pl x.2))) :=
 LG C (fun _ => True) t ht r (fun x hx => by obtain ⟨a, b, h1, h2, e⟩ := hr x hx; exact ⟨a, b, h1, h2, trivial, trivial, e⟩) hl hc pl (fun n hn _ Q => hg n hn Q)
theorem SC (t : A3) (ht : A8 t) (s : Ad) (hs : N7 s) : VP V A95 [vT t, ML s] Q ↔ Q (.b (PU t s)) := by
 refine Aa ?_
 rw [A9 C.c_z3.1 C.c_z3.2]
 have h64 := ht.n64
 have hmay := fun (Q : VV → Prop) => UU C t ht s hs (Q := Q)
 rw [AaT t ht s] at hmay
 unfold PU
 cases hf : BX t s with
 | false => simp only [A7L, A5g, go_sem, ↓reduceIte, hmay, hf, Bool.false_and]
 | true =>
  have hfr := Hw hf
  have hF := Gd hfr
  have hhb := fun (Q : VV → Prop) => Mj C t ht s.has s.jf hs.has hs.jf (Q := Q)
  rw [hbF, if_pos hfr] at hhb
  have hpl : (BH (Ns t s.has s.jf)).length ≤ 5000 := by
   have := MH (Ns t s.has s.jf) (Ns t s.has s.jf).length
   rw [BH]
   have hl : (Ns t s.has s.jf).length = t.nodes.length := Eg h64 _
   split
   ·rw [hl] at this ⊢; omega
   ·simp
  have hin : ∀ x ∈ BH (Ns t s.has s.jf), ∃ a b : Nat, a < t.nodes.length ∧ b < t.nodes.length ∧ x = ((a : Int), (b : Int)) := fun x hx => by
   obtain ⟨a, b, ha, e, hp⟩ := (E0 h64 _ _).1 hx
   exact ⟨a, b, ha, hp.lt, e⟩
  have hpr := fun (Q : VV → Prop) => TZ C t ht (Ns t s.has s.jf) hin hpl (g := VJ) (c := [.fp (eT t) 0, .fp (Yw s) 0]) (fun _ _ => rfl) (Zf t s) (fun n hn Q => QX C t s hs hn (Q := Q)) (Q := Q)
  simp only [A7L, A5g, go_sem, ↓reduceIte, hmay, hf, hhb, hpr, Bool.true_and]
  rfl
end
end Go.AM

namespace Go.AM
open Go Go.Proofs
/-- A list that was nil at first, handed on. -/
def Jl (ty e : Nat) (rows : List (List VV)) : VO := if rows.length = 0 then Lc else { ty := ty, esz := e, ver := 0, nl := false, rows := rows }
def stJ (t : A3) (k : Nat) : List Int := List.replicate (Ds t k).length (-1)
theorem AdO {t : A3} {k : Nat} (h : decide ((t.at k).up < 0) = true) : stJ t (k + 1) = stJ t k ++ [-1] := by
 unfold stJ
 rw [A1w h, List.length_append, List.length_singleton, List.replicate_succ']
theorem Aeb {t : A3} {k : Nat} (h : decide ((t.at k).up < 0) = false) : stJ t (k + 1) = stJ t k := by unfold stJ; rw [A0q h]
theorem A80 {t : A3} (k : Nat) : (stJ t k).length ≤ k := by unfold stJ; rw [List.length_replicate]; exact MN k
def GD (k : Nat) : List (List (List Int)) := (List.range k).map fun (i : Nat) => [[(i : Int)]]
theorem A3k (k : Nat) : GD (k + 1) = GD k ++ [[[(k : Int)]]] := by
 unfold GD
 rw [List.range_succ, List.map_append]; rfl
theorem A5F (k : Nat) : (GD k).length = k := by simp [GD]
def sTh (t : A3) (k j : Nat) : VH := [some ⟨Cp, 0, 0, false, [[.nl, .nl, .nl]]⟩, some (AL Bj 1 ((Ds t k).map eI)), some (AL Bj 1 ((stJ t k).map eI)), some (AL D7 1 ((GD j).map Gp)),
 some ⟨Cp, 0, 0, false, [[.sl 1 (Ds t k).length 0 (Ds t k).length, .sl 2 (stJ t k).length 0 (stJ t k).length, .sl 3 (GD j).length 0 (GD j).length]]⟩]
theorem A4T (ty : Nat) (L : List (List Int)) (c : List Int) : ({ ty := ty, esz := 1, ver := L.length + 1, nl := false, rows := L.map NI ++ [[VV.ls (c.map eI)]] } : VO) = AL ty 1 ((L ++ [c]).map NI) := by
 rw [List.map_append]
 unfold AL
 rw [if_neg (by simp), List.length_append, List.length_map]; rfl
theorem A7B (ty : Nat) (L : List (List (List Int))) (c : List (List Int)) : ({ ty := ty, esz := 1, ver := L.length + 1, nl := false, rows := L.map Gp ++ [[VV.ls (c.map NI)]] } : VO) = AL ty 1 ((L ++ [c]).map Gp) := by
 rw [List.map_append]
 unfold AL
 rw [if_neg (by simp), List.length_append, List.length_map]; rfl
def cpH (s : Ad) (L : List (List (List Int))) : VH := [some ⟨Cp, 0, 0, false, [[.nl, .nl, .nl]]⟩, some (cpO Bj 1 (s.has.map eI)), some (cpO Bj 1 (s.jf.map eI)),
 some ⟨Cp, 0, 0, false, [[.sl 1 (cpV s.has.length) 0 s.has.length, .sl 2 (cpV s.jf.length) 0 s.jf.length, .sl 4 L.length 0 L.length]]⟩, some (AL D7 1 (L.map Gp))]
section
variable {V : Al} (C : AB V) {Q : VV → Prop}
include C
set_option maxHeartbeats 4000000 in
theorem QG (t : A3) (ht : A8 t) : VP V A1n [vT t] Q ↔ Q (ML (Bq t)) := by
 refine Aa ?_
 rw [A9 C.c_z15.1 C.c_z15.2]
 have h64 := ht.n64
 have hl4 := ht.l4
 simp only [A6O, EY, go_sem, ↓reduceIte]
 refine Ak (by decide) t.nodes.length (by omega) (I := fun k F h => A1.tmp F 1 = .fp (eT t) 0 ∧ A1.tmp F 2 = .p 0 0 0 0 ∧ A1.tmp F 3 = .p 4 0 0 0 ∧ h = sTh t k 0) ?_ ?_ ?_ 0 _ _ (Nat.zero_le _) ?_ ?_
 ·rintro k F h hk p4 ⟨p1, p2, p3, rfl⟩
  simp only [EY, go_sem, ↓reduceIte, p4, p1, p2, p3]
 ·rintro k F h hk p4 ⟨p1, p2, p3, rfl⟩
  have hlen := MN (t := t) k
  cases c : decide ((t.at k).up < 0) with
  | true =>
   have b1 : ((Ds t k).length + 1) * 8 ≤ A6 := by unfold A6; omega
   have hj := A80 (t := t) k
   have b2 : ((stJ t k).length + 1) * 8 ≤ A6 := by unfold A6; omega
   simp only [EY, go_sem, ↓reduceIte, p4, p1, p2, p3, hk, A5 hk, c, sTh, A1w c, AdO c, A0, b1, b2, List.length_map, List.length_append]
  | false =>
   simp only [EY, go_sem, ↓reduceIte, p4, p1, p2, p3, hk, A5 hk, c, sTh, A0q c, Aeb c, A0]
 ·rintro F h ⟨p1, p2, p3, rfl⟩
  simp only [EY, go_sem, ↓reduceIte, p1, p2, p3]
  refine Ak (by decide) t.locs.length (by omega) (I := fun j F h => A1.tmp F 1 = .fp (eT t) 0 ∧ A1.tmp F 2 = .p 0 0 0 0 ∧ A1.tmp F 3 = .p 4 0 0 0 ∧ h = sTh t t.nodes.length j) ?_ ?_ ?_ 0 _ _ (Nat.zero_le _) ?_ ?_
  ·rintro k F h hk p5 ⟨p1, p2, p3, rfl⟩
   simp only [EY, go_sem, ↓reduceIte, p5, p1, p2, p3]
  ·rintro k F h hk p5 ⟨p1, p2, p3, rfl⟩
   have hm := A5F k
   have b1 : ((GD k).length + 1) * 24 ≤ A6 := by unfold A6; omega
   simp only [EY, go_sem, ↓reduceIte, p5, p1, p2, p3, hk, sTh, A3k, A0, b1, List.length_map, List.length_append]
   have e : List.map Gp (GD k ++ [[[(k : Int)]]]) = List.map Gp (GD k) ++ [[VV.ls [[VV.ls [[VV.i IntKind.i64 (k : Int)]]]]]] := by rw [List.map_append]; rfl
   have e2 : ({ ty := D7, esz := 1, ver := (GD k).length + 1, nl := false, rows := List.map Gp (GD k) ++ [[VV.ls [[VV.ls [[VV.i IntKind.i64 (k : Int)]]]]]] } : VO) = AL D7 1 (List.map Gp (GD k ++ [[[(k : Int)]]])) := by
    rw [e]
    unfold AL
    rw [if_neg (by simp), List.length_append, List.length_map]; rfl
   rw [e2]
   refine ⟨.inr ?_, rfl⟩
   rw [List.all_append, Bool.and_eq_true]
   exact ⟨Gu (fun _ => rfl), rfl⟩
  ·rintro F h ⟨p1, p2, p3, rfl⟩
   simp only [EY, go_sem, ↓reduceIte, p1, p2, p3, sTh]
   rfl
  ·simp only [EY, go_sem, ↓reduceIte]
  ·simp only [EY, go_sem, ↓reduceIte, p1, p2, p3]
 ·simp only [EY, go_sem, ↓reduceIte]
 ·simp only [EY, go_sem, ↓reduceIte]
  rfl
set_option maxHeartbeats 4000000 in
theorem KF (s : Ad) (hs : N7 s) (b : Nat) {Q : VV → VH → Prop} : VP1 V Qs [ML s] b Q ↔ Q (.ag [.sl b 0 0 s.has.length, .sl (b + 1) 0 0 s.jf.length, .sl (b + 1 + 1) 0 0 s.mo.length]) [some ⟨Bj, 1, 0, false, s.has.map eI⟩, some ⟨Bj, 1, 0, false, s.jf.map eI⟩, some (Jl D7 1 (s.mo.map Gp))] := by
 refine MU ?_
 rw [MG C.c_z18.2]
 have h1 := hs.has
 have h2 := hs.jf
 have h3 := hs.mo
 have b1 : s.has.length * 8 ≤ A6 := by unfold A6; omega
 have b2 : s.jf.length * 8 ≤ A6 := by unfold A6; omega
 simp only [Wj, GB, go_sem, ↓reduceIte, b1, b2]
 refine Ak (by decide) s.mo.length (by omega) (I := fun k F h => A1.tmp F 1 = .fp (Yw s) 0 ∧ A1.tmp F 2 = .p 0 0 0 0 ∧ A1.tmp F 3 = .p 3 0 0 0 ∧ ∃ L, L = s.mo.take k ∧ h = cpH s L) ?_ ?_ ?_ 0 _ _ (Nat.zero_le _) ?_ ?_
 ·rintro k F h hk p4 ⟨p1, p2, p3, L, hL, rfl⟩
  simp only [GB, go_sem, ↓reduceIte, p4, p1, p2, p3]
  exact ⟨L, hL, rfl⟩
 ·rintro k F h hk p4 ⟨p1, p2, p3, L, hL, rfl⟩
  have hm := hs.mi' k
  simp only [GB, go_sem, ↓reduceIte, p4, p1, p2, p3, A0, cpH]
  refine Ak (by decide) (s.mo.getD k []).length (by omega) (I := fun j F h => A1.tmp F 4 = .i .i64 k ∧ A1.tmp F 1 = .fp (Yw s) 0 ∧ A1.tmp F 2 = .p 0 0 0 0 ∧ A1.tmp F 3 = .p 3 0 0 0 ∧ ∃ K, K = (s.mo.getD k []).take j ∧ A1.tmp F 5 = .sl 5 K.length 0 K.length ∧ h = cpH s L ++ [some (AL A1C 1 (K.map NI))]) ?_ ?_ ?_ 0 _ _ (Nat.zero_le _) ?_ ?_
  ·rintro j F h hj q6 ⟨q4, q1, q2, q3, K, hK, q5, rfl⟩
   simp only [GB, go_sem, ↓reduceIte, q6, q4, q1, q2, q3, q5, CG hk]
   exact ⟨K, hK, rfl, rfl⟩
  ·rintro j F h hj q6 ⟨q4, q1, q2, q3, K, hK, q5, rfl⟩
   have htk : (s.mo.getD k []).take (j + 1) = K ++ [(s.mo.getD k []).getD j []] := by
    rw [List.take_succ_eq_append_getElem hj, hK, List.getD_eq_getElem?_getD (l := s.mo.getD k []), List.getElem?_eq_getElem hj]; rfl
   have hc := hs.mc' k j
   have hl : K.length = j := by rw [hK, List.length_take]; omega
   have b3 : ((s.mo.getD k []).getD j []).length * 8 ≤ A6 := by unfold A6; omega
   have b4 : (K.length + 1) * 24 ≤ A6 := by unfold A6; omega
   simp only [GB, go_sem, ↓reduceIte, q6, q4, q1, q2, q3, q5, CG hk, GN hj, hk, hj, b3, b4, cpH, A4T, A0, List.length_append, List.length_map]
   exact ⟨K ++ [(s.mo.getD k []).getD j []], htk.symm, by simp, rfl⟩
  ·rintro F h ⟨q4, q1, q2, q3, K, hK, q5, rfl⟩
   rw [List.take_length] at hK
   subst hK
   have htk : s.mo.take (k + 1) = L ++ [s.mo.getD k []] := by
    rw [List.take_succ_eq_append_getElem hk, hL, List.getD_eq_getElem?_getD, List.getElem?_eq_getElem hk]; rfl
   have hl : L.length = k := by rw [hL, List.length_take]; omega
   have b4 : (L.length + 1) * 24 ≤ A6 := by unfold A6; omega
   simp only [GB, go_sem, ↓reduceIte, q4, q1, q2, q3, q5, b4, cpH, A7B, List.length_append, List.length_map]
   exact ⟨L ++ [s.mo.getD k []], htk.symm, by simp⟩
  ·simp only [GB, go_sem, ↓reduceIte]
  ·simp only [GB, go_sem, ↓reduceIte, p4, p1, p2, p3, cpH]
   exact ⟨[], rfl, rfl, rfl⟩
 ·rintro F h ⟨p1, p2, p3, L, hL, rfl⟩
  rw [List.take_length] at hL
  subst hL
  simp only [GB, go_sem, ↓reduceIte, p1, p2, p3, cpH, Bh, Bh.takeL]
  refine ⟨by decide, ?_⟩
  unfold AL Jl
  split <;> simp_all [Lc]
 ·simp only [GB, go_sem, ↓reduceIte]
 ·simp only [GB, go_sem, ↓reduceIte]
  exact ⟨[], rfl, rfl⟩
end
end Go.AM

namespace Go.AM
open Go Go.Proofs
def noS : Ad := ⟨[], [], []⟩
def Lz (o : Option Ad) : VV := match o with
 | some s => .tu [ML s, .b true]
 | none => .tu [ML noS, .b false]
def De (t : A3) (s : Ad) (n kind w : Int) : Option Ad := if Cr t s n kind = true then some (CA s n w) else none
theorem UZ {l : List Int} {n : Int} {i : Nat} (h : i ≤ Bz l n) : (i < l.length ∧ l.getD i 0 < n) ↔ i < Bz l n := by
 constructor
 ·rintro ⟨h1, h2⟩
  rcases Nat.lt_or_ge i (Bz l n) with c | c
  ·exact c
  ·have e : i = Bz l n := by omega
   subst e
   exact absurd h2 (A8G h1)
 ·intro h2
  exact ⟨by have := DC l n; omega, Tv h2⟩
theorem Lu {ty e : Nat} {rows : List (List VV)} : (Jl ty e rows).ver = 0 := by unfold Jl; split <;> rfl
theorem Kj {ty e : Nat} {rows : List (List VV)} : (Jl ty e rows).rows = rows := by
 unfold Jl; split
 ·rename_i h; rw [List.length_eq_zero_iff.1 h]; rfl
 ·rfl
theorem Lt {ty : Nat} {rows : List (List VV)} : (decide (0 < (Jl ty 1 rows).esz) || (Jl ty 1 rows).nl) = true := by unfold Jl; split <;> rfl
def moH (s : Ad) : VH := [some ⟨Cp, 0, 0, false, [[.nl, .nl, .nl]]⟩, some ⟨Bj, 1, 0, false, s.has.map eI⟩, some ⟨Bj, 1, 0, false, s.jf.map eI⟩, some (Jl D7 1 (s.mo.map Gp)), some ⟨Cp, 0, 0, false, [[.sl 1 0 0 s.has.length, .sl 2 0 0 s.jf.length, .sl 3 0 0 s.mo.length]]⟩]
section
variable {V : Al} (C : AB V) {Q : VV → Prop}
include C
set_option maxRecDepth 4000 in
set_option maxHeartbeats 8000000 in
theorem LL (t : A3) (ht : A8 t) (s : Ad) (hs : N7 s) (n kind w : Int) : VP V Lo [vT t, ML s, .i .i64 n, .i .i64 kind, .i .i64 w] Q ↔ Q (Lz (De t s n kind w)) := by
 refine Aa ?_
 rw [A9 C.c_z90.1 C.c_z90.2]
 have hfm := fun (Q : VV → Prop) => EL C t ht s hs (Q := Q)
 have hno : Cr t s n kind = false → Lz (De t s n kind w) = .tu [ML noS, .b false] := fun h => by rw [De, h]; rfl
 have e0 : (VV.tu [ML noS, .b false]) = .tu [.ag [.ls [], .ls [], .ls []], .b false] := rfl
 have hle := hs.has
 cases hf : BX t s with
 | false =>
  rw [hno (by rw [Cr, hf]; rfl), e0]
  simp only [EF, BS, go_sem, ↓reduceIte, hfm, hf]
 | true =>
 cases h1 : BY t n with
 | false =>
  rw [hno (by rw [Cr, hf, h1]; rfl), e0]
  simp only [EF, BS, go_sem, ↓reduceIte, hfm, hf, Ay C, h1]
 | true =>
 obtain ⟨m, rfl, hm⟩ := Aj h1
 cases h2 : decide ((t.at m).kind = kind) with
 | false =>
  rw [hno (by rw [Cr, hf, h1, Int.toNat_natCast, h2]; rfl), e0]
  simp only [EF, BS, go_sem, ↓reduceIte, hfm, hf, Ay C, h1, A5 hm, h2]
 | true =>
 have w1 := Ke s.has (m : Int)
 cases h3 : Bd s.has (m : Int) with
 | true =>
  rw [hno (by rw [Cr, hf, h1, Int.toNat_natCast, h2, h3]; rfl), e0]
  rw [h3] at w1
  simp only [EF, BS, go_sem, ↓reduceIte, hfm, hf, Ay C, h1, A5 hm, h2, Av C s.has (by omega), w1]
 | false =>
 rw [h3] at w1
 have w2 := CK s.has (t.at m).up
 cases h4 : Bd s.has (t.at m).up with
 | false =>
  rw [hno (by rw [Cr, hf, h1, Int.toNat_natCast, h2, h3, h4]; rfl), e0]
  rw [h4] at w2
  simp only [EF, BS, go_sem, ↓reduceIte, hfm, hf, Ay C, h1, A5 hm, h2, Av C s.has (by omega), w1, w2]
 | true =>
 rw [h4] at w2
 have hok : De t s m kind w = some (CA s m w) := by rw [De, Cr, hf, h1, Int.toNat_natCast, h2, h3, h4]; rfl
 rw [hok]
 have hcp := fun (b : Nat) (Q : VV → VH → Prop) => KF C s hs b (Q := Q)
 simp only [EF, BS, go_sem, ↓reduceIte, hfm, hf, Ay C, h1, A5 hm, h2, Av C s.has (by omega), w1, w2, hcp]
 unfold VL
 rw [A0]
 have hjl : s.jf.length = s.has.length := by simp only [BX, Bool.and_eq_true, decide_eq_true_eq] at hf; exact hf.1.1.1.1.2
 refine AQ (M := Nat) (I := fun i F h => i ≤ Bz s.has m ∧ A1.tmp F 2 = .i .i64 m ∧ A1.tmp F 4 = .i .i64 w ∧ A1.tmp F 6 = .fp (Yw s) 0 ∧ A1.tmp F 10 = .p 0 0 0 0 ∧ A1.tmp F 12 = .p 4 0 0 0 ∧ A1.tmp F 13 = .i .i64 i ∧ h = moH s) (μ := fun i => s.has.length - i) ?_ 0 _ _ ⟨Nat.zero_le _, ?_, ?_, ?_, ?_, ?_, ?_, rfl⟩
 ·rintro i F h ⟨hi, p2, p4, p6, p10, p12, p13, rfl⟩
  have hiff := UZ hi
  have hkl := DC s.has m
  by_cases c : i < s.has.length
  ·cases c2 : decide (s.has.getD i 0 < (m : Int)) with
   | true =>
    have c2' := of_decide_eq_true c2
    have hlt := hiff.1 ⟨c, c2'⟩
    have hw : IntKind.i64.wrap ((i : Int) + 1) = ((i + 1 : Nat) : Int) := by rw [AS (by omega) (by omega)]; omega
    simp only [Ld, BS, go_sem, ↓reduceIte, p2, p4, p6, p10, p12, p13, c, Au c, c2, A0, hw]
    exact ⟨i + 1, by omega, by omega, rfl, rfl, rfl⟩
   | false =>
    have c2' := of_decide_eq_false c2
    have e : i = Bz s.has m := by
     rcases Nat.lt_or_ge i (Bz s.has m) with h | h
     ·exact absurd (Tv h) c2'
     ·omega
    obtain ⟨A, hA⟩ : ∃ A, A = s.has.take i := ⟨_, rfl⟩
    obtain ⟨B, hB⟩ : ∃ B, B = s.has.drop i := ⟨_, rfl⟩
    obtain ⟨A', hA'⟩ : ∃ A, A = s.jf.take i := ⟨_, rfl⟩
    obtain ⟨B', hB'⟩ : ∃ B, B = s.jf.drop i := ⟨_, rfl⟩
    have lA : A.length = i := by rw [hA, List.length_take]; omega
    have lA' : A'.length = i := by rw [hA', List.length_take]; omega
    have lB : B.length = s.has.length - i := by rw [hB, List.length_drop]
    have lB' : B'.length = s.jf.length - i := by rw [hB', List.length_drop]
    have tB : List.take (s.has.length - i) B = B := List.take_of_length_le (by omega)
    have tB' : List.take (s.jf.length - i) B' = B' := List.take_of_length_le (by omega)
    have c1 : i ≤ s.has.length := by omega
    have c1' : i ≤ s.jf.length := by omega
    have b1 : A.length * 8 ≤ A6 := by unfold A6; omega
    have b1' : A'.length * 8 ≤ A6 := by unfold A6; omega
    have b2 : (A.length + 1) * 8 ≤ A6 := by unfold A6; omega
    have b2' : (A'.length + 1) * 8 ≤ A6 := by unfold A6; omega
    obtain ⟨b0, Bs, rfl⟩ : ∃ b0 Bs, B = b0 :: Bs := by
     cases B with
     | nil => simp at lB; omega
     | cons b0 Bs => exact ⟨b0, Bs, rfl⟩
    obtain ⟨b0', Bs', rfl⟩ : ∃ b0 Bs, B' = b0 :: Bs := by
     cases B' with
     | nil => simp at lB'; omega
     | cons b0 Bs => exact ⟨b0, Bs, rfl⟩
    rw [List.length_cons] at lB lB'
    have tBm : List.take (s.has.length - i) (eI b0 :: List.map eI Bs) = eI b0 :: List.map eI Bs := List.take_of_length_le (by simp; omega)
    have tBm' : List.take (s.jf.length - i) (eI b0' :: List.map eI Bs') = eI b0' :: List.map eI Bs' := List.take_of_length_le (by simp; omega)
    obtain ⟨X, hX⟩ : ∃ X, X = A ++ [(m : Int)] ++ b0 :: Bs := ⟨_, rfl⟩
    obtain ⟨X', hX'⟩ : ∃ X, X = A' ++ [w] ++ b0' :: Bs' := ⟨_, rfl⟩
    have jX : List.map eI (A ++ [(m : Int)]) ++ eI b0 :: List.map eI Bs = List.map eI X := by rw [hX, List.map_append (l₁ := A ++ [(m : Int)])]; rfl
    have jX' : List.map eI (A' ++ [w]) ++ eI b0' :: List.map eI Bs' = List.map eI X' := by rw [hX', List.map_append (l₁ := A' ++ [w])]; rfl
    have lX : A.length + 1 + (Bs.length + 1) = X.length := by rw [hX]; simp; omega
    have lX' : A'.length + 1 + (Bs'.length + 1) = X'.length := by rw [hX']; simp; omega
    have b3 : X.length * 8 ≤ A6 := by unfold A6; omega
    have b3' : X'.length * 8 ≤ A6 := by unfold A6; omega
    have eX : X = Bi s.has (Bz s.has m) m := by rw [hX, Bi, ← e, ← hA, ← hB]; simp
    have eX' : X' = Bi s.jf (Bz s.has m) w := by rw [hX', Bi, ← e, ← hA', ← hB']; simp
    simp only [Ld, BS, go_sem, ↓reduceIte, p2, p4, p6, p10, p12, p13, c, Au c, c2, A0, moH, ← hA, ← hB, ← hA', ← hB', tBm, tBm', c1, c1', b1, b1', b2, b2', b3, b3', List.length_append, List.length_map, Lu, Kj, Lt, jX, jX', lX, lX']
    rw [eX, eX']; rfl
  ·have e : i = Bz s.has m := by omega
   obtain ⟨A, hA⟩ : ∃ A, A = s.has.take i := ⟨_, rfl⟩
   obtain ⟨B, hB⟩ : ∃ B, B = s.has.drop i := ⟨_, rfl⟩
   obtain ⟨A', hA'⟩ : ∃ A, A = s.jf.take i := ⟨_, rfl⟩
   obtain ⟨B', hB'⟩ : ∃ B, B = s.jf.drop i := ⟨_, rfl⟩
   have lA : A.length = i := by rw [hA, List.length_take]; omega
   have lA' : A'.length = i := by rw [hA', List.length_take]; omega
   have lB : B.length = s.has.length - i := by rw [hB, List.length_drop]
   have lB' : B'.length = s.jf.length - i := by rw [hB', List.length_drop]
   have tB : List.take (s.has.length - i) B = B := List.take_of_length_le (by omega)
   have tB' : List.take (s.jf.length - i) B' = B' := List.take_of_length_le (by omega)
   have c1 : i ≤ s.has.length := by omega
   have c1' : i ≤ s.jf.length := by omega
   have b1 : A.length * 8 ≤ A6 := by unfold A6; omega
   have b1' : A'.length * 8 ≤ A6 := by unfold A6; omega
   have b2 : (A.length + 1) * 8 ≤ A6 := by unfold A6; omega
   have b2' : (A'.length + 1) * 8 ≤ A6 := by unfold A6; omega
   obtain rfl : B = [] := List.length_eq_zero_iff.1 (by omega)
   obtain rfl : B' = [] := List.length_eq_zero_iff.1 (by omega)
   have b3 : (A.length + 1 + 0) * 8 ≤ A6 := by unfold A6; omega
   have b3' : (A'.length + 1 + 0) * 8 ≤ A6 := by unfold A6; omega
   simp only [Ld, BS, go_sem, ↓reduceIte, p2, p4, p6, p10, p12, p13, c, A0, moH, ← hA, ← hB, ← hA', ← hB', tB, tB', c1, c1', b1, b1', b2, b2', b3, b3', List.length_append, List.length_map, Lu, Kj, Lt]
   have eX : A ++ [(m : Int)] = Bi s.has (Bz s.has m) m := by rw [Bi, ← e, ← hA, ← hB]
   have eX' : A' ++ [w] = Bi s.jf (Bz s.has m) w := by rw [Bi, ← e, ← hA', ← hB']
   rw [eX, eX']; rfl
 ·simp only [BS, go_sem, ↓reduceIte]
 ·simp only [BS, go_sem, ↓reduceIte]
 ·simp only [BS, go_sem, ↓reduceIte]
 ·simp only [BS, go_sem, ↓reduceIte]
 ·simp only [BS, go_sem, ↓reduceIte]
 ·simp only [BS, go_sem, ↓reduceIte]
end
end Go.AM

namespace Go.AM
open Go Go.Proofs
abbrev agS (s : Ad) (b : Nat) : VV := .ag [.sl b 0 0 s.has.length, .sl (b + 1) 0 0 s.jf.length, .sl (b + 1 + 1) 0 0 s.mo.length]
abbrev obS (s : Ad) : VH := [some ⟨Bj, 1, 0, false, s.has.map eI⟩, some ⟨Bj, 1, 0, false, s.jf.map eI⟩, some (Jl D7 1 (s.mo.map Gp))]
theorem Vn {ty e : Nat} {rows : List (List VV)} : ({ ty := (Jl ty e rows).ty, esz := (Jl ty e rows).esz, ver := 0, nl := (Jl ty e rows).nl, rows := rows } : VO) = Jl ty e rows := by
 unfold Jl
 split
 ·rename_i h; rw [List.length_eq_zero_iff.1 h]; rfl
 ·rfl
theorem Xr {α : Type} {g : α → Option (α × List Nat)} : ∀ (l : List α) (k : Nat) (x y : α) (ids : List Nat), (∀ a ∈ l, g a = some (a, [])) → k < l.length → g x = some (y, ids) → Bb g (l.set k x) = some (l.set k y, ids)
 | [], k, x, y, ids, _, hk, _ => by simp at hk
 | a :: l, 0, x, y, ids, h, _, hx => by
  have hl : Bb g l = some (l, []) := by
   have : ∀ (l : List α), (∀ a ∈ l, g a = some (a, [])) → Bb g l = some (l, []) := by
    intro l
    induction l with
    | nil => intro _; rfl
    | cons b l ih => intro h; simp only [Bb, h b (by simp), ih fun a ha => h a (by simp [ha]), List.nil_append]
   exact this l fun a ha => h a (by simp [ha])
  simp only [List.set_cons_zero, Bb, hx, hl, List.append_nil]
 | a :: l, k + 1, x, y, ids, h, hk, hx => by
  have := Xr l k x y ids (fun a ha => h a (by simp [ha])) (by simpa using hk) hx
  simp only [List.set_cons_succ, Bb, h a (by simp), this, List.nil_append]
theorem A5E {H : VH} {l : List (List (List Int))} {k : Nat} (hk : k < l.length) {v : VV} {X : List (List Int)} {ids : List Nat} (hv : frz H 5 v = some (.ls (X.map NI), ids)) :
  Bb (fun row => Bb (frz H 5) row) (List.take l.length ((l.map Gp).set k [v])) = some ((l.set k X).map Gp, ids) := by
 rw [List.take_of_length_le (by simp)]
 rw [List.map_set]
 refine Xr (l.map Gp) k [v] (Gp X) ids ?_ (by simpa using hk) ?_
 ·intro a ha
  obtain ⟨c, _, rfl⟩ := List.mem_map.1 ha
  simp only [go_sem, Wu, ↓reduceIte]
 ·simp only [Bb, hv, List.append_nil]
section
variable {V : Al} (C : AB V)
include C
set_option maxHeartbeats 8000000 in
theorem Pb (t : A3) (ht : A8 t) (s : Ad) (hs : N7 s) (n kind w : Int) (h0 : Cr t s n kind = false) (b : Nat) {Q : VV → VH → Prop} : VP1 V Lo [vT t, ML s, .i .i64 n, .i .i64 kind, .i .i64 w] b Q ↔ Q (.tu [ML noS, .b false]) [] := by
 refine MU ?_
 rw [MG C.c_z90.2]
 have hfm := fun (Q : VV → Prop) => EL C t ht s hs (Q := Q)
 have e0 : (VV.tu [ML noS, .b false]) = .tu [.ag [.ls [], .ls [], .ls []], .b false] := rfl
 have hle := hs.has
 rw [e0]
 cases hf : BX t s with
 | false =>
  simp only [EF, BS, go_sem, ↓reduceIte, hfm, hf, Bh, Bh.takeL]
  exact List.nodup_nil
 | true =>
 cases h1 : BY t n with
 | false =>
  simp only [EF, BS, go_sem, ↓reduceIte, hfm, hf, Ay C, h1, Bh, Bh.takeL]
  exact List.nodup_nil
 | true =>
 obtain ⟨m, rfl, hm⟩ := Aj h1
 cases h2 : decide ((t.at m).kind = kind) with
 | false =>
  simp only [EF, BS, go_sem, ↓reduceIte, hfm, hf, Ay C, h1, A5 hm, h2, Bh, Bh.takeL]
  exact List.nodup_nil
 | true =>
 have w1 := Ke s.has (m : Int)
 cases h3 : Bd s.has (m : Int) with
 | true =>
  rw [h3] at w1
  simp only [EF, BS, go_sem, ↓reduceIte, hfm, hf, Ay C, h1, A5 hm, h2, Av C s.has (by omega), w1, Bh, Bh.takeL]
  exact List.nodup_nil
 | false =>
 rw [h3] at w1
 have w2 := CK s.has (t.at m).up
 cases h4 : Bd s.has (t.at m).up with
 | false =>
  rw [h4] at w2
  simp only [EF, BS, go_sem, ↓reduceIte, hfm, hf, Ay C, h1, A5 hm, h2, Av C s.has (by omega), w1, w2, Bh, Bh.takeL]
  exact List.nodup_nil
 | true =>
  rw [Cr, hf, h1, Int.toNat_natCast, h2, h3, h4] at h0
  cases h0
set_option maxHeartbeats 8000000 in
theorem QQ (t : A3) (ht : A8 t) (s : Ad) (hs : N7 s) {m : Nat} (hm : m < t.nodes.length) (kind w : Int) (hok : Cr t s m kind = true) (b : Nat) {Q : VV → VH → Prop} : VP1 V Lo [vT t, ML s, .i .i64 m, .i .i64 kind, .i .i64 w] b Q ↔ Q (.tu [agS (CA s m w) b, .b true]) (obS (CA s m w)) := by
 refine MU ?_
 rw [MG C.c_z90.2]
 have hfm := fun (Q : VV → Prop) => EL C t ht s hs (Q := Q)
 have hle := hs.has
 have h1 : BY t (m : Int) = true := Ck hm
 simp only [Cr, Bool.and_eq_true, Bool.not_eq_true', Int.toNat_natCast] at hok
 obtain ⟨⟨⟨⟨hf, _⟩, h2⟩, h3⟩, h4⟩ := hok
 have w1 := Ke s.has (m : Int)
 have w2 := CK s.has (t.at m).up
 rw [h3] at w1
 rw [h4] at w2
 have hcp := fun (b : Nat) (Q : VV → VH → Prop) => KF C s hs b (Q := Q)
 simp only [EF, BS, go_sem, ↓reduceIte, hfm, hf, Ay C, h1, A5 hm, h2, Av C s.has (by omega), w1, w2, hcp]
 unfold VL
 rw [A0]
 have hjl : s.jf.length = s.has.length := by simp only [BX, Bool.and_eq_true, decide_eq_true_eq] at hf; exact hf.1.1.1.1.2
 refine AQ (M := Nat) (I := fun i F h => i ≤ Bz s.has m ∧ A1.tmp F 2 = .i .i64 m ∧ A1.tmp F 4 = .i .i64 w ∧ A1.tmp F 6 = .fp (Yw s) 0 ∧ A1.tmp F 10 = .p 0 0 0 0 ∧ A1.tmp F 12 = .p 4 0 0 0 ∧ A1.tmp F 13 = .i .i64 i ∧ h = moH s) (μ := fun i => s.has.length - i) ?_ 0 _ _ ⟨Nat.zero_le _, ?_, ?_, ?_, ?_, ?_, ?_, rfl⟩
 ·rintro i F h ⟨hi, p2, p4, p6, p10, p12, p13, rfl⟩
  have hiff := UZ hi
  have hkl := DC s.has m
  by_cases c : i < s.has.length
  ·cases c2 : decide (s.has.getD i 0 < (m : Int)) with
   | true =>
    have c2' := of_decide_eq_true c2
    have hlt := hiff.1 ⟨c, c2'⟩
    have hw : IntKind.i64.wrap ((i : Int) + 1) = ((i + 1 : Nat) : Int) := by rw [AS (by omega) (by omega)]; omega
    simp only [Ld, BS, go_sem, ↓reduceIte, p2, p4, p6, p10, p12, p13, c, Au c, c2, A0, hw]
    exact ⟨i + 1, by omega, by omega, rfl, rfl, rfl⟩
   | false =>
    have c2' := of_decide_eq_false c2
    have e : i = Bz s.has m := by
     rcases Nat.lt_or_ge i (Bz s.has m) with h | h
     ·exact absurd (Tv h) c2'
     ·omega
    obtain ⟨A, hA⟩ : ∃ A, A = s.has.take i := ⟨_, rfl⟩
    obtain ⟨B, hB⟩ : ∃ B, B = s.has.drop i := ⟨_, rfl⟩
    obtain ⟨A', hA'⟩ : ∃ A, A = s.jf.take i := ⟨_, rfl⟩
    obtain ⟨B', hB'⟩ : ∃ B, B = s.jf.drop i := ⟨_, rfl⟩
    have lA : A.length = i := by rw [hA, List.length_take]; omega
    have lA' : A'.length = i := by rw [hA', List.length_take]; omega
    have lB : B.length = s.has.length - i := by rw [hB, List.length_drop]
    have lB' : B'.length = s.jf.length - i := by rw [hB', List.length_drop]
    have tB : List.take (s.has.length - i) B = B := List.take_of_length_le (by omega)
    have tB' : List.take (s.jf.length - i) B' = B' := List.take_of_length_le (by omega)
    have c1 : i ≤ s.has.length := by omega
    have c1' : i ≤ s.jf.length := by omega
    have b1 : A.length * 8 ≤ A6 := by unfold A6; omega
    have b1' : A'.length * 8 ≤ A6 := by unfold A6; omega
    have b2 : (A.length + 1) * 8 ≤ A6 := by unfold A6; omega
    have b2' : (A'.length + 1) * 8 ≤ A6 := by unfold A6; omega
    obtain ⟨b0, Bs, rfl⟩ : ∃ b0 Bs, B = b0 :: Bs := by
     cases B with
     | nil => simp at lB; omega
     | cons b0 Bs => exact ⟨b0, Bs, rfl⟩
    obtain ⟨b0', Bs', rfl⟩ : ∃ b0 Bs, B' = b0 :: Bs := by
     cases B' with
     | nil => simp at lB'; omega
     | cons b0 Bs => exact ⟨b0, Bs, rfl⟩
    rw [List.length_cons] at lB lB'
    have tBm : List.take (s.has.length - i) (eI b0 :: List.map eI Bs) = eI b0 :: List.map eI Bs := List.take_of_length_le (by simp; omega)
    have tBm' : List.take (s.jf.length - i) (eI b0' :: List.map eI Bs') = eI b0' :: List.map eI Bs' := List.take_of_length_le (by simp; omega)
    obtain ⟨X, hX⟩ : ∃ X, X = A ++ [(m : Int)] ++ b0 :: Bs := ⟨_, rfl⟩
    obtain ⟨X', hX'⟩ : ∃ X, X = A' ++ [w] ++ b0' :: Bs' := ⟨_, rfl⟩
    have jX : List.map eI (A ++ [(m : Int)]) ++ eI b0 :: List.map eI Bs = List.map eI X := by rw [hX, List.map_append (l₁ := A ++ [(m : Int)])]; rfl
    have jX' : List.map eI (A' ++ [w]) ++ eI b0' :: List.map eI Bs' = List.map eI X' := by rw [hX', List.map_append (l₁ := A' ++ [w])]; rfl
    have lX : A.length + 1 + (Bs.length + 1) = X.length := by rw [hX]; simp; omega
    have lX' : A'.length + 1 + (Bs'.length + 1) = X'.length := by rw [hX']; simp; omega
    have b3 : X.length * 8 ≤ A6 := by unfold A6; omega
    have b3' : X'.length * 8 ≤ A6 := by unfold A6; omega
    have eX : X = Bi s.has (Bz s.has m) m := by rw [hX, Bi, ← e, ← hA, ← hB]; simp
    have eX' : X' = Bi s.jf (Bz s.has m) w := by rw [hX', Bi, ← e, ← hA', ← hB']; simp
    simp only [Ld, BS, go_sem, ↓reduceIte, p2, p4, p6, p10, p12, p13, c, Au c, c2, A0, moH, ← hA, ← hB, ← hA', ← hB', tBm, tBm', c1, c1', b1, b1', b2, b2', b3, b3', List.length_append, List.length_map, Lu, Kj, Lt, Bh, Bh.takeL, jX, jX', lX, lX']
    exact ⟨by decide, by rw [eX, eX']; rfl, by rw [Vn, eX, eX']; rfl⟩
  ·have e : i = Bz s.has m := by omega
   obtain ⟨A, hA⟩ : ∃ A, A = s.has.take i := ⟨_, rfl⟩
   obtain ⟨B, hB⟩ : ∃ B, B = s.has.drop i := ⟨_, rfl⟩
   obtain ⟨A', hA'⟩ : ∃ A, A = s.jf.take i := ⟨_, rfl⟩
   obtain ⟨B', hB'⟩ : ∃ B, B = s.jf.drop i := ⟨_, rfl⟩
   have lA : A.length = i := by rw [hA, List.length_take]; omega
   have lA' : A'.length = i := by rw [hA', List.length_take]; omega
   have lB : B.length = s.has.length - i := by rw [hB, List.length_drop]
   have lB' : B'.length = s.jf.length - i := by rw [hB', List.length_drop]
   have tB : List.take (s.has.length - i) B = B := List.take_of_length_le (by omega)
   have tB' : List.take (s.jf.length - i) B' = B' := List.take_of_length_le (by omega)
   have c1 : i ≤ s.has.length := by omega
   have c1' : i ≤ s.jf.length := by omega
   have b1 : A.length * 8 ≤ A6 := by unfold A6; omega
   have b1' : A'.length * 8 ≤ A6 := by unfold A6; omega
   have b2 : (A.length + 1) * 8 ≤ A6 := by unfold A6; omega
   have b2' : (A'.length + 1) * 8 ≤ A6 := by unfold A6; omega
   obtain rfl : B = [] := List.length_eq_zero_iff.1 (by omega)
   obtain rfl : B' = [] := List.length_eq_zero_iff.1 (by omega)
   have b3 : (A.length + 1 + 0) * 8 ≤ A6 := by unfold A6; omega
   have b3' : (A'.length + 1 + 0) * 8 ≤ A6 := by unfold A6; omega
   simp only [Ld, BS, go_sem, ↓reduceIte, p2, p4, p6, p10, p12, p13, c, A0, moH, ← hA, ← hB, ← hA', ← hB', tB, tB', c1, c1', b1, b1', b2, b2', b3, b3', List.length_append, List.length_map, Lu, Kj, Lt, Bh, Bh.takeL]
   have eX : A ++ [(m : Int)] = Bi s.has (Bz s.has m) m := by rw [Bi, ← e, ← hA, ← hB]
   have eX' : A' ++ [w] = Bi s.jf (Bz s.has m) w := by rw [Bi, ← e, ← hA', ← hB']
   have lX : A.length + 1 = (Bi s.has (Bz s.has m) m).length := by rw [← eX]; simp
   have lX' : A'.length + 1 = (Bi s.jf (Bz s.has m) w).length := by rw [← eX']; simp
   exact ⟨by decide, by rw [lX, lX']; rfl, by rw [Vn, eX, eX']; rfl⟩
 ·simp only [BS, go_sem, ↓reduceIte]
 ·simp only [BS, go_sem, ↓reduceIte]
 ·simp only [BS, go_sem, ↓reduceIte]
 ·simp only [BS, go_sem, ↓reduceIte]
 ·simp only [BS, go_sem, ↓reduceIte]
 ·simp only [BS, go_sem, ↓reduceIte]
theorem VK (t : A3) (ht : A8 t) (s : Ad) (hs : N7 s) (n : Int) {Q : VV → Prop} : VP V A0N [vT t, ML s, .i .i64 n] Q ↔ Q (Lz (De t s n 4 (-1))) := by
 refine Aa ?_
 rw [A9 C.c_z49.1 C.c_z49.2]
 have hm := fun (Q : VV → Prop) => LL C t ht s hs n 4 (-1) (Q := Q)
 cases h : De t s n 4 (-1) with
 | none =>
  rw [h] at hm
  simp only [Lz, noS] at hm ⊢
  simp only [A2w, W3, go_sem, ↓reduceIte, hm]
  rfl
 | some s' =>
  rw [h] at hm
  simp only [Lz] at hm ⊢
  simp only [A2w, W3, go_sem, ↓reduceIte, hm]
def S0 (t : A3) (s : Ad) (n w : Int) : Option Ad := match De t s n 2 w with
 | some s' => if BX t s' = true then some s' else none
 | none => none
theorem Ta (t : A3) (ht : A8 t) (s : Ad) (hs : N7 s) (hz : s.has.length < 1000 ∧ s.jf.length < 1000) (n w : Int) {Q : VV → Prop} : VP V A0M [vT t, ML s, .i .i64 n, .i .i64 w] Q ↔ Q (Lz (S0 t s n w)) := by
 refine Aa ?_
 rw [A9 C.c_z50.1 C.c_z50.2]
 have hm := fun (Q : VV → Prop) => LL C t ht s hs n 2 w (Q := Q)
 unfold S0
 cases h : De t s n 2 w with
 | none =>
  rw [h] at hm
  simp only [Lz, noS] at hm ⊢
  simp only [WQ, S6, go_sem, ↓reduceIte, hm]
  rfl
 | some s' =>
  rw [h] at hm
  have hs' : N7 s' := by
   rw [De] at h
   split at h
   ·rename_i hok
    cases h
    have h1 := DC s.has n
    have hj : s.jf.length = s.has.length := by
     simp only [Cr, BX, Bool.and_eq_true, decide_eq_true_eq] at hok
     exact hok.1.1.1.1.1.1.1.1.2
    exact ⟨by show (Bi _ _ _).length ≤ 1000; rw [CR h1]; omega, by show (Bi _ _ _).length ≤ 1000; rw [CR (by omega)]; omega, hs.mo, hs.mi, hs.mc⟩
   ·cases h
  have hf := fun (Q : VV → Prop) => EL C t ht s' hs' (Q := Q)
  cases hff : BX t s' with
  | false =>
   simp only [Lz, noS, hff, Bool.false_eq_true, if_false] at hm ⊢
   simp only [WQ, S6, go_sem, ↓reduceIte, hm, hf, hff]
   rfl
  | true =>
   simp only [Lz, hff, if_true] at hm ⊢
   simp only [WQ, S6, go_sem, ↓reduceIte, hm, hf, hff]
def Hc (t : A3) (s : Ad) (n at_ : Int) : Option Ad := match De t s n 3 (-1) with
 | some s' => if at_ < 1 ∨ ((s'.mo.getD (t.at n.toNat).loc.toNat []).length : Int) < at_ then none else
   some { s' with mo := s'.mo.set (t.at n.toNat).loc.toNat ((s'.mo.getD (t.at n.toNat).loc.toNat []).take at_.toNat ++ [n] :: (s'.mo.getD (t.at n.toNat).loc.toNat []).drop at_.toNat) }
 | none => none
set_option maxHeartbeats 4000000 in
theorem QR (t : A3) (ht : A8 t) (s : Ad) (hs : N7 s) (n at_ : Int) {Q : VV → Prop} : VP V A1E [vT t, ML s, .i .i64 n, .i .i64 at_] Q ↔ Q (Lz (Hc t s n at_)) := by
 refine Aa ?_
 rw [A9 C.c_z51.1 C.c_z51.2]
 unfold Hc De
 cases hok : Cr t s n 3 with
 | false =>
  have hm := fun (b : Nat) (Q : VV → VH → Prop) => Pb C t ht s hs n 3 (-1) hok b (Q := Q)
  simp only [Lz, noS, Bool.false_eq_true, if_false] at hm ⊢
  simp only [PX, Ja, go_sem, ↓reduceIte, hm]
  rfl
 | true =>
  have hok' := hok
  simp only [Cr, Bool.and_eq_true, decide_eq_true_eq] at hok'
  obtain ⟨⟨⟨⟨hf, h1⟩, h2⟩, h3⟩, h4⟩ := hok'
  obtain ⟨m, rfl, hmn⟩ := Aj h1
  rw [Int.toNat_natCast] at h2
  have hm := fun (b : Nat) (Q : VV → VH → Prop) => QQ C t ht s hs hmn 3 (-1) hok b (Q := Q)
  have hmo : s.mo.length = t.locs.length := by simp only [BX, Bool.and_eq_true, decide_eq_true_eq] at hf; exact hf.1.1.1.2
  obtain ⟨l0, l1⟩ := ht.wloc hmn (.inr h2)
  obtain ⟨loc, hloc⟩ := Int.eq_ofNat_of_zero_le l0
  have hll : loc < s.mo.length := by omega
  rw [if_pos rfl]
  simp only [Int.toNat_natCast, hloc]
  have hll' : loc < (CA s m (-1)).mo.length := hll
  have hz : Jl D7 1 (List.map Gp (CA s m (-1)).mo) = ⟨D7, 1, 0, false, List.map Gp (CA s m (-1)).mo⟩ := by
   unfold Jl
   rw [if_neg (by rw [List.length_map]; omega)]
  have BT := CG hll'
  have hsz := hs.mi' loc
  obtain ⟨L, hL⟩ : ∃ L, L = (CA s m (-1)).mo.getD loc [] := ⟨_, rfl⟩
  rw [← hL] at BT
  have hLl : L.length ≤ 1000 := by rw [hL]; exact hsz
  rw [← hL]
  cases c1 : decide (at_ < 1) with
  | true =>
   rw [if_pos (.inl (of_decide_eq_true c1))]
   simp only [Lz, noS]
   simp only [PX, Ja, go_sem, ↓reduceIte, hm, A5 hmn, hloc, hz, BT, hll', c1]
   rfl
  | false =>
  have c1' := of_decide_eq_false c1
  obtain ⟨a, rfl⟩ := Int.eq_ofNat_of_zero_le (show 0 ≤ at_ by omega)
  have c2n : decide ((L.length : Int) < (a : Int)) = decide (L.length < a) := decide_eq_decide.2 ⟨fun h => by omega, fun h => by omega⟩
  cases c2 : decide (L.length < a) with
  | true =>
   have := of_decide_eq_true c2
   rw [if_pos (.inr (by omega))]
   simp only [Lz, noS]
   simp only [PX, Ja, go_sem, ↓reduceIte, hm, A5 hmn, hloc, hz, BT, hll', c1, c2n, c2]
   rfl
  | false =>
  have c2' := of_decide_eq_false c2
  rw [if_neg (by omega), Int.toNat_natCast]
  have c3 : a ≤ L.length := by omega
  obtain ⟨A, hA⟩ : ∃ A, A = L.take a := ⟨_, rfl⟩
  obtain ⟨B, hB⟩ : ∃ B, B = L.drop a := ⟨_, rfl⟩
  have lA : A.length = a := by rw [hA, List.length_take]; omega
  have lB : B.length = L.length - a := by rw [hB, List.length_drop]
  have b1 : A.length * 24 ≤ A6 := by unfold A6; omega
  have b2 : (A.length + 1) * 24 ≤ A6 := by unfold A6; omega
  have jA : List.map NI A ++ [[VV.ls [[VV.i .i64 (m : Int)]]]] = List.map NI (A ++ [[(m : Int)]]) := by rw [List.map_append]; rfl
  rw [← hA, ← hB]
  cases B with
  | nil =>
   have b3 : (A.length + 1 + 0) * 24 ≤ A6 := by unfold A6; omega
   have tB : List.take (L.length - a) ([] : List (List Int)) = [] := List.take_nil
   simp only [PX, Ja, go_sem, ↓reduceIte, hm, A5 hmn, hloc, hz, BT, hll', c1, c2n, c2, c3, ← hA, ← hB, tB, b1, b2, b3, jA, List.length_append, List.length_map]
   rw [A5E hll' (X := A ++ [[(m : Int)]]) (ids := [8]) (by simp only [Ja, go_sem, ↓reduceIte, List.length_append, List.length_map])]
   simp only [Ja, go_sem, ↓reduceIte, List.length_set, List.length_map]
   rfl
  | cons b0 Bs =>
   rw [List.length_cons] at lB
   obtain ⟨X, hX⟩ : ∃ X, X = A ++ [[(m : Int)]] ++ b0 :: Bs := ⟨_, rfl⟩
   have tBm : List.take (L.length - a) (NI b0 :: List.map NI Bs) = NI b0 :: List.map NI Bs := List.take_of_length_le (by simp; omega)
   have jX : List.map NI (A ++ [[(m : Int)]]) ++ NI b0 :: List.map NI Bs = List.map NI X := by rw [hX, List.map_append (l₁ := A ++ [[(m : Int)]])]; rfl
   have lX : A.length + 1 + (Bs.length + 1) = X.length := by rw [hX]; simp; omega
   have b3 : X.length * 24 ≤ A6 := by unfold A6; omega
   simp only [PX, Ja, go_sem, ↓reduceIte, hm, A5 hmn, hloc, hz, BT, hll', c1, c2n, c2, c3, ← hA, ← hB, tBm, b1, b2, b3, jA, jX, lX, List.length_append, List.length_map]
   rw [A5E hll' (X := X) (ids := [8]) (by simp only [Ja, go_sem, ↓reduceIte])]
   simp only [Ja, go_sem, ↓reduceIte, List.length_set, List.length_map]
   have eX : X = A ++ [(m : Int)] :: b0 :: Bs := by rw [hX]; simp
   rw [eX]; rfl
end
end Go.AM
