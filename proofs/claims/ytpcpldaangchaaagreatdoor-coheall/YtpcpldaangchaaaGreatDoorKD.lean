/-
  Own work, part of the proof of CoheAll: what functions compute (fourth part).
-/
import Derived.Test.YtpcpldaangchaaaGreatDoorKC
import Derived.Test.YtpcpldaangchaaaGreatDoorAmF
import Derived.Test.YtpcpldaangchaaaGreatDoorPl
set_option maxRecDepth 4000
set_option linter.unusedVariables false
set_option linter.unusedSimpArgs false
set_option linter.unusedSectionVars false
set_option linter.unnecessarySimpa false
namespace Go.AM
open Go Go.Proofs
def Aik : ES := leaf T7 ⟨A0n, T4⟩
theorem A7c : ∀ n : Fin 65, TY (AL, Z0) Aik (leaf K0 ⟨Nm, Jn⟩) 5000 ⟨ZO, TW⟩ [.i .u64 1, .i .u64 ((n.val : Nat) : Int)] [] (.tu [.i .u64 0, .i .u64 ((n.val : Nat) : Int)]) = true := by decide +kernel
/-- A list half full: m of n are laid. -/
def Jz (x : Int) (m n : Nat) : List Int := List.replicate m x ++ List.replicate (n - m) 0
theorem A4T {x : Int} {m n : Nat} (h : m ≤ n) : (Jz x m n).length = n := by simp [Jz]; omega
theorem YJ {x : Int} {m n : Nat} (h : m ≤ n) : (Jz x m n).take m = List.replicate m x := by
 unfold Jz
 rw [List.take_left' (by simp)]
theorem Zr (x : Int) (n : Nat) : Jz x n n = List.replicate n x := by simp [Jz]
theorem A3F {x : Int} {n : Nat} (h : 0 < n) : List.take (min 1 n) [[VV.i IntKind.i64 x]] ++ List.map eI (List.drop (min 1 n) (List.replicate n 0)) = (Jz x 1 n).map eI := by
 rw [show min 1 n = 1 by omega]
 simp [Jz]
theorem ZI {x : Int} {m n : Nat} (h : m ≤ n) : (List.replicate m x).map eI ++ ((List.take (min m (n - m)) (List.replicate m x)).map eI ++ (List.drop (m + min m (n - m)) (Jz x m n)).map eI) = (Jz x (m + min m (n - m)) n).map eI := by
 unfold Jz
 rw [← List.map_append, ← List.map_append, List.take_replicate, List.drop_append]
 simp only [List.length_replicate, List.drop_replicate]
 rw [show min (min m (n - m)) m = min m (n - m) by omega, show m - (m + min m (n - m)) = 0 by omega, List.replicate_zero, List.nil_append, show m + min m (n - m) - m = min m (n - m) by omega,
  ← List.append_assoc, List.replicate_append_replicate, show n - m - min m (n - m) = n - (m + min m (n - m)) by omega]
theorem AfS (l : List Int) : ((l.map eI).all fun r => r.all VV.cell) = true := by
 rw [List.all_eq_true]
 intro r hr
 obtain ⟨x, _, rfl⟩ := List.mem_map.1 hr
 rfl
section
variable {V : At} (C : AS V) {Q : VV → Prop}
include C
theorem WU {n : Nat} (hn : n ≤ 64) : VP V PM [vW 1#64, .i .u64 (n : Int)] Q ↔ Q (.tu [vW 0#64, .i .u64 (n : Int)]) :=
 Ab (HE (a := ⟨PM, [.i .u64 1, .i .u64 (n : Int)], .tu [.i .u64 0, .i .u64 (n : Int)]⟩) (.of (.leaf C.c_z171) (.leaf C.h_z136) C.c_mathbits_TrailingZeros64) C.c_z140.1 C.c_z140.2 .nil (A7c ⟨n, by omega⟩))
set_option maxHeartbeats 4000000 in
theorem Np (x : Int) {n : Nat} (hn : n ≤ 64) (h0 : 0 < n) (b : Nat) {Q : VV → VH → Prop} : Yq V A2R [.ls [[.i .i64 x]], .i .i64 n] b Q ↔ Q (.sl b 0 0 n) [some ⟨AU, 1, 0, false, (List.replicate n x).map eI⟩] := by
 refine LP ?_
 rw [Lj C.c_z94.2]
 have b1 : n * 8 ≤ A6 := by unfold A6; omega
 have q1 : ¬ (n : Int) < 0 := by omega
 have q2 : ¬ ((n : Int) : Int) > 9223372036854775807 := by omega
 have q3 : IntKind.u64.wrap (n : Int) = n := by
  rw [show IntKind.u64.wrap (n : Int) = (n : Int) % 18446744073709551616 from rfl]; omega
 have q4 : IntKind.i64.wrap (n : Int) = n := AE (by omega) (by omega)
 have q5 : IntKind.u64.wrap 1 = 1 := rfl
 have q7 : B1 .gtr none (vW 0#64) (vW 0#64) = some (.b false) := rfl
 have q6 : ¬ (9223372036854775807 : Int) < (n : Int) := by omega
 simp only [A5j, NK, go_sem, ↓reduceIte, b1, q1, q2, q3, q4, WU C hn, Int.le_refl, q5, q6, q7, Int.toNat_natCast]
 unfold VL
 rw [A0]
 refine AG (M := Nat) (I := fun m F h => 0 < m ∧ m ≤ n ∧ A3.tmp F 7 = .sl 0 0 0 n ∧ A3.tmp F 8 = .i .i64 m ∧ h = [some ⟨AU, 1, 0, false, (Jz x m n).map eI⟩]) (μ := fun m => n - m) ?_ 1 _ _ ⟨by omega, by omega, ?_, ?_, ?_⟩
 ·rintro m F h ⟨m0, mn, p7, p8, rfl⟩
  by_cases c : m < n
  ·have c1 : (m : Int) < (n : Int) := by omega
   have hl := A4T (x := x) mn
   have hcp := ZI (x := x) mn
   have e1 : min m n = m := by omega
   have e2 : decide (m + (n - m) ≤ n) = true := decide_eq_true (by omega)
   have e3 : IntKind.i64.wrap ((m : Int) + ((min m (n - m) : Nat) : Int)) = ((m + min m (n - m) : Nat) : Int) := by rw [AE (by omega) (by omega)]; omega
   simp only [A0x, NK, go_sem, ↓reduceIte, p7, p8, c1, A0, hl, mn, YJ mn, e1, e2, hcp, e3, AfS]
   exact ⟨m + min m (n - m), by omega, by omega, by omega, rfl, rfl⟩
  ·have c1 : ¬ (m : Int) < (n : Int) := by omega
   have e : m = n := by omega
   subst e
   simp only [A0x, NK, go_sem, ↓reduceIte, p7, p8, c1, A0, Zr, Bm]
   simp
 ·simp only [NK, go_sem, ↓reduceIte]
 ·simp only [NK, go_sem, ↓reduceIte]
  omega
 ·rw [A3F h0]
end
end Go.AM

namespace Go.AM
open Go Go.Proofs
abbrev eSn (t : A5) (x f : List Int) : List VV := [.i .i64 t.vals, lS t.locs, .ls (t.regs.map JA), .ls (t.nodes.map eN), vW (Dv x), lI (onL t x f), lW (AB t.nodes.length fun a b => Aw t a b)]
abbrev Sx (t : A5) (x f : List Int) : VV := .fp (eSn t x f) 0
section
variable {V : At} (C : AS V) {Q : VV → Prop}
include C
theorem PZ (n : Ay) : VP V Qx [vN n] Q ↔ Q (.b (E8 n)) := by
 refine Ab ?_
 rw [A8 C.c_z163.1 C.c_z163.2]
 cases c0 : decide (n.kind = 3) <;> cases c1 : decide (0 ≤ n.thread) <;> cases c4 : decide (n.kind = 4) <;> cases c2 : decide (n.mode = 2) <;> cases c3 : decide (n.mode = 3) <;>
  simp only [A15, VQ, go_sem, ↓reduceIte, c0, c1, c2, c3, c4, E8]
theorem Pz (n : Ay) : VP V QE [vN n] Q ↔ Q (.b (J3 n)) := by
 refine Ab ?_
 rw [A8 C.c_z123.1 C.c_z123.2]
 cases c0 : decide (n.kind = 2) <;> cases c1 : decide (n.kind = 4) <;> cases c2 : decide (n.mode = 1) <;> cases c3 : decide (n.mode = 3) <;>
  simp only [YT, Vj, go_sem, ↓reduceIte, c0, c1, c2, c3, J3]
theorem Hw (t : A5) (x f : List Int) {n : Nat} (hn : n < t.nodes.length) : VP V V2 [Sx t x f, .i .i64 n] Q ↔ Q (.b (decide (0 ≤ (t.at n).thread))) := by
 refine Ab ?_
 rw [A8 C.c_z120.1 C.c_z120.2]
 simp only [A0r, UB, go_sem, ↓reduceIte, A4 hn]
theorem QL (t : A5) (x f : List Int) {n : Nat} (hn : n < t.nodes.length) {g : Nat} {p : Bool} (hg : ∀ Q : VV → Prop, VP V g [vN (t.at n)] Q ↔ Q (.b p)) : VP V Uf [Sx t x f, .i .i64 n, .f g [] []] Q ↔ Q (.b (decide ((t.at n).kind = 4) && p)) := by
 refine Ab ?_
 rw [A8 C.c_z124.1 C.c_z124.2]
 cases c : decide ((t.at n).kind = 4) <;> simp only [A0v, VX, go_sem, ↓reduceIte, A4 hn, c, hg]
theorem Ua (t : A5) (ht : Aj t) (x f : List Int) (hx : Cw t x) {n : Nat} (hn : n < t.nodes.length) : VP V Ue [Sx t x f, .i .i64 n] Q ↔ Q (.i .i64 (Yp t x f n)) := by
 refine Ab ?_
 rw [A8 C.c_z122.1 C.c_z122.2]
 have hh := hx.has ht.n64
 unfold Yp
 rw [Int.toNat_natCast]
 cases c : (t.at n).rmw with
 | false => simp only [Qo, Nk, go_sem, ↓reduceIte, A4 hn, c, Bool.false_eq_true, false_and]
 | true =>
  cases c2 : Be x (t.at n).up with
  | false => simp only [Qo, Nk, go_sem, ↓reduceIte, A4 hn, c, AX C, hh, c2, Bool.false_eq_true, and_false]
  | true =>
   obtain ⟨m, hm1, hm⟩ := Aa (hx _ (Ai.1 c2))
   rw [hm1] at c2 ⊢
   simp only [Qo, Nk, go_sem, ↓reduceIte, A4 hn, c, AX C, hh, c2, hm1, J4 hm, and_self]
theorem TO (t : A5) (ht : Aj t) (x f : List Int) (hx : Cw t x) {n : Nat} (hn : n < t.nodes.length) : VP V T5 [Sx t x f, .i .i64 n] Q ↔ Q (.b (HY t x f n)) := by
 refine Ab ?_
 rw [A8 C.c_z113.1 C.c_z113.2]
 have hh := hx.has ht.n64
 unfold HY
 rw [Int.toNat_natCast]
 cases c : decide ((t.at n).kind = 2) with
 | false =>
  have c' := of_decide_eq_false c
  simp only [Q8, Nl, go_sem, ↓reduceIte, A4 hn, c, J4 hn, c']
 | true =>
  have c' := of_decide_eq_true c
  cases c2 : Be x (Jx x f n) with
  | false => simp only [Q8, Nl, go_sem, ↓reduceIte, A4 hn, c, J4 hn, c', AX C, hh, c2, Bool.false_and]
  | true =>
   obtain ⟨m, hm1, hm⟩ := Aa (hx _ (Ai.1 c2))
   rw [hm1] at c2 ⊢
   cases c3 : decide ((t.at m).kind = 3) <;> simp only [Q8, Nl, go_sem, ↓reduceIte, A4 hn, c, J4 hn, c', AX C, hh, c2, hm1, A4 hm, c3, HG, Int.toNat_natCast, Bool.true_and, Bool.false_and]
set_option maxHeartbeats 4000000 in
theorem A0o (t : A5) (ht : Aj t) (x f : List Int) (hx : Cw t x) {w : Nat} (hw : w < t.nodes.length) : VP V To [Sx t x f, .i .i64 w] Q ↔ Q (vW (Mu t x w)) := by
 refine Ab ?_
 rw [A8 C.c_z121.1 C.c_z121.2]
 have h64 := ht.n64
 have hll := Dj (Dv x)
 obtain ⟨s0, hs0, hb0⟩ : ∃ s0, s0 = (if E8 (t.at w) = true then 0#64 ||| Cy (w : Int) else 0#64) ∧ ∀ j, j < 64 → s0.getLsbD j = (decide (j = w) && E8 (t.at w)) := by
  refine ⟨_, rfl, fun j hj => ?_⟩
  by_cases c : E8 (t.at w) = true
  ·have e : decide ((j : Int) = (w : Int) ∧ j < 64) = decide (j = w) := decide_eq_decide.2 ⟨fun h => by omega, fun h => ⟨by omega, hj⟩⟩
   rw [if_pos c, BitVec.getLsbD_or, Cz, e, c]; simp
  ·rw [if_neg c, Bool.eq_false_iff.2 c]; simp
 let p : Int → Bool := fun n => decide ((t.at n.toNat).kind = 4) && E8 (t.at n.toNat) && Aw t n w
 have hfin : CX p s0 (Az (Dv x)) = Mu t x w := by
  apply BV
  intro j hj
  rw [Nj p j hj, hb0 j hj, Mu, AH, A6q, decide_eq_true hj, Bool.and_true]
  have e1 : Be (Az (Dv x)) (j : Int) = Be x (j : Int) := by
   rw [Bool.eq_iff_iff, Ai, Ai]; exact hx.list h64 _
  have e2 : (decide (j = w) && E8 (t.at w)) = (decide ((j : Int) = (w : Int)) && E8 (t.at j)) := by
   by_cases c : j = w
   ·subst c; simp
   ·have c' : ¬ (j : Int) = (w : Int) := by omega
    simp [c, c']
  rw [e1, e2]
  simp only [p, Int.toNat_natCast, Bool.and_assoc]
 cases c0 : E8 (t.at w) <;> simp only [c0, Bool.false_eq_true, if_true, if_false] at hs0 <;> (
 simp only [A0D, Gx, go_sem, ↓reduceIte, A4 hw, PZ C, D6 C, DM C, c0, ← hs0]
 refine Am (by decide) (Az (Dv x)).length (by omega) (I := fun k F h => A3.tmp F 0 = Sx t x f ∧ A3.tmp F 1 = .i .i64 w ∧ A3.tmp F 24 = lI (Az (Dv x)) ∧ h = [] ∧ A3.tmp F 5 = vW (CX p s0 ((Az (Dv x)).take k))) ?_ ?_ 0 _ _ (by omega) ?_ ?_ ?_
 ·rintro k F h hk p26 p25 ⟨p0, p1, p24, rfl, p5⟩
  obtain ⟨m, hm1, hm⟩ := Aa (hx _ ((hx.list h64 _).1 (Ap (d := 0) hk)))
  have hT : CX p s0 ((Az (Dv x)).take (k + 1)) = if p m = true then CX p s0 ((Az (Dv x)).take k) ||| Cy m else CX p s0 ((Az (Dv x)).take k) := by rw [Jt hk, hm1]
  have hp : p m = (decide ((t.at m).kind = 4) && E8 (t.at m) && Aw t m w) := by simp only [p, Int.toNat_natCast]
  have hbar := fun (Q : VV → Prop) => QL C t x f hm (g := Qx) (p := E8 (t.at m)) (fun Q => PZ C (t.at m)) (Q := Q)
  rw [hT, hp]
  cases c1 : (decide ((t.at m).kind = 4) && E8 (t.at m)) with
  | false => simp only [Gx, go_sem, ↓reduceIte, p26, p25, p0, p1, p24, p5, Aq hk, hk, hm1, hbar, c1, A0, Bool.false_and, Bool.false_eq_true]
  | true =>
   have hpo := X8 (p := fun a b => Aw t a b) h64 hm hw
   rw [Jg hm] at hpo
   have hg := E0 (n := t.nodes.length) (p := fun a b => Aw t a b) hm
   cases c2 : Aw t m w with
   | false =>
    rw [c2] at hpo
    simp only [Gx, go_sem, ↓reduceIte, p26, p25, p0, p1, p24, p5, Aq hk, hk, hm1, hbar, c1, A0, hg, AX C, hpo, Bool.and_false, Bool.false_eq_true]
   | true =>
    rw [c2] at hpo
    simp only [Gx, go_sem, ↓reduceIte, p26, p25, p0, p1, p24, p5, Aq hk, hk, hm1, hbar, c1, A0, hg, AX C, hpo, D6 C, Bool.and_self]
 ·rintro F h ⟨p0, p1, p24, rfl, p5⟩
  simp only [Gx, go_sem, ↓reduceIte, p0, p1, p24, p5, List.take_length, hfin]
 ·simp only [Gx, go_sem, ↓reduceIte]
 ·simp only [Gx, go_sem, ↓reduceIte]
 ·simp only [Gx, go_sem, ↓reduceIte]
  rfl)
set_option maxHeartbeats 4000000 in
theorem Xc (t : A5) (ht : Aj t) (x f : List Int) (hx : Cw t x) {r : Nat} (hr : r < t.nodes.length) : VP V QV [Sx t x f, .i .i64 r] Q ↔ Q (vW (Bz (EF t x r))) := by
 refine Ab ?_
 rw [A8 C.c_z76.1 C.c_z76.2]
 have h64 := ht.n64
 let X := Dv x &&& Bz fun b => decide (b < t.nodes.length) && Aw t r b
 have hX : X = Dv x &&& Bz fun b => decide (b < t.nodes.length) && Aw t r b := rfl
 have hll := Dj X
 have hg := E0 (n := t.nodes.length) (p := fun a b => Aw t a b) hr
 have hXm : ∀ y : Int, y ∈ Az X ↔ y ∈ x ∧ Aw t r y = true := by
  intro y
  rw [Dg]
  constructor
  ·intro h
   obtain ⟨h1, h2⟩ := Gf h
   obtain ⟨m, rfl⟩ := Int.eq_ofNat_of_zero_le h1
   rw [AT, hX, BitVec.getLsbD_and, AH, Bool.and_eq_true, Bool.and_eq_true, Bool.and_eq_true] at h
   exact ⟨by rw [← Ai, ← hx.has h64, AT]; exact h.1, h.2.1.2⟩
  ·rintro ⟨h1, h2⟩
   obtain ⟨m, rfl, hm⟩ := Aa (hx _ h1)
   rw [AT, hX, BitVec.getLsbD_and, AH, h2, ← AT, hx.has h64, Ai.2 h1, decide_eq_true hm, decide_eq_true (show m < 64 by omega)]; rfl
 obtain ⟨s0, hs0, hb0⟩ : ∃ s0, s0 = (if J3 (t.at r) = true then 0#64 ||| Cy (r : Int) else 0#64) ∧ ∀ j, j < 64 → s0.getLsbD j = (decide (j = r) && J3 (t.at r)) := by
  refine ⟨_, rfl, fun j hj => ?_⟩
  by_cases c : J3 (t.at r) = true
  ·have e : decide ((j : Int) = (r : Int) ∧ j < 64) = decide (j = r) := decide_eq_decide.2 ⟨fun h => by omega, fun h => ⟨by omega, hj⟩⟩
   rw [if_pos c, BitVec.getLsbD_or, Cz, e, c]; simp
  ·rw [if_neg c, Bool.eq_false_iff.2 c]; simp
 let p : Int → Bool := fun n => decide ((t.at n.toNat).kind = 4) && J3 (t.at n.toNat)
 have hfin : CX p s0 (Az X) = Bz (EF t x r) := by
  apply BV
  intro j hj
  rw [Nj p j hj, hb0 j hj, AH, EF, decide_eq_true hj, Bool.and_true]
  have e1 : Be (Az X) (j : Int) = (Be x (j : Int) && Aw t r j) := by
   rw [Bool.eq_iff_iff, Ai, hXm, Bool.and_eq_true, Ai]
  have e2 : (decide (j = r) && J3 (t.at r)) = (decide ((j : Int) = (r : Int)) && J3 (t.at j)) := by
   by_cases c : j = r
   ·subst c; simp
   ·have c' : ¬ (j : Int) = (r : Int) := by omega
    simp [c, c']
  rw [e1, e2]
  simp only [p, Int.toNat_natCast]
  cases Be x (j : Int) <;> cases Aw t r j <;> simp
 cases c0 : J3 (t.at r) <;> simp only [c0, Bool.false_eq_true, if_true, if_false] at hs0 <;> (
 simp only [A6k, Lg, go_sem, ↓reduceIte, A4 hr, Pz C, D6 C, DM C, c0, hg, ← hs0, ← hX]
 refine Am (by decide) (Az X).length (by omega) (I := fun k F h => A3.tmp F 0 = Sx t x f ∧ A3.tmp F 32 = lI (Az X) ∧ h = [] ∧ A3.tmp F 5 = vW (CX p s0 ((Az X).take k))) ?_ ?_ 0 _ _ (by omega) ?_ ?_ ?_
 ·rintro k F h hk p34 p33 ⟨p0, p32, rfl, p5⟩
  obtain ⟨m, hm1, hm⟩ := Aa (hx _ ((hXm _).1 (Ap (d := 0) hk)).1)
  have hT : CX p s0 ((Az X).take (k + 1)) = if p m = true then CX p s0 ((Az X).take k) ||| Cy m else CX p s0 ((Az X).take k) := by rw [Jt hk, hm1]
  have hp : p m = (decide ((t.at m).kind = 4) && J3 (t.at m)) := by simp only [p, Int.toNat_natCast]
  have hbar := fun (Q : VV → Prop) => QL C t x f hm (g := QE) (p := J3 (t.at m)) (fun Q => Pz C (t.at m)) (Q := Q)
  rw [hT, hp]
  cases c1 : (decide ((t.at m).kind = 4) && J3 (t.at m)) with
  | false => simp only [Lg, go_sem, ↓reduceIte, p34, p33, p0, p32, p5, Aq hk, hk, hm1, hbar, c1, A0, Bool.false_eq_true]
  | true => simp only [Lg, go_sem, ↓reduceIte, p34, p33, p0, p32, p5, Aq hk, hk, hm1, hbar, c1, A0, D6 C]
 ·rintro F h ⟨p0, p32, rfl, p5⟩
  simp only [Lg, go_sem, ↓reduceIte, p0, p32, p5, List.take_length, hfin]
 ·simp only [Lg, go_sem, ↓reduceIte]
 ·simp only [Lg, go_sem, ↓reduceIte]
 ·simp only [Lg, go_sem, ↓reduceIte]
  rfl)
theorem A8v {t : A5} (ht : Aj t) {x f : List Int} (hF : En t x f) {w0 : Int} (hw0 : w0 ∈ x) {i : Nat} (hoff : ∀ j, j < i → HL t (Hy t x f j w0) = false) : Cw t (JM t x f w0 i) := by
 intro v hv
 obtain ⟨j, hj, rfl⟩ := Pn.1 hv
 rcases LF ht hF hw0 j (fun k hk => hoff k (by omega)) with e | e
 ·have := hoff j hj
  rw [e] at this; cases this
 ·exact hF.node _ e
set_option maxHeartbeats 4000000 in
theorem Tc (t : A5) (ht : Aj t) (x f : List Int) (hF : En t x f) {w0 : Int} (hw0 : w0 ∈ x) : VP V QH [Sx t x f, .i .i64 w0] Q ↔ Q (vW (AN t x f w0)) := by
 refine Ab ?_
 rw [A8 C.c_z75.1 C.c_z75.2]
 have h64 := ht.n64
 simp only [A6c, JI, go_sem, ↓reduceIte]
 unfold VL
 rw [A0]
 refine AG (M := Nat) (I := fun i F h => h = [] ∧ A3.tmp F 0 = Sx t x f ∧ A3.tmp F 1 = .i .i64 (Hy t x f i w0) ∧ A3.tmp F 5 = vW (R4 t x f w0 i) ∧ A3.tmp F 6 = vW (Dv (JM t x f w0 i)) ∧ (∀ j, j < i → HL t (Hy t x f j w0) = false) ∧ (JM t x f w0 i).Nodup) (μ := fun i => x.length + 1 - i) ?_ 0 _ _ ⟨rfl, ?_, ?_, ?_, ?_, by omega, by simp [JM]⟩
 ·rintro i F h ⟨rfl, p0, p1, p5, p6, hoff, hnd⟩
  have hil : i ≤ x.length := by
   have h1 : (JM t x f w0 i).length = i := by simp [JM]
   rw [← h1]
   refine NJ _ _ hnd fun v hv => ?_
   obtain ⟨j, hj, rfl⟩ := Pn.1 hv
   rcases LF ht hF hw0 j (fun k hk => hoff k (by omega)) with e | e
   ·have := hoff j hj
    rw [e] at this; cases this
   ·exact e
  have hend := A8M ht hF hw0 hoff hnd
  rcases LF ht hF hw0 i hoff with e | e
  ·have := hend (.inl (by rw [e]; rfl))
   rw [e] at p1
   simp only [Q7, JI, go_sem, ↓reduceIte, p0, p1, p5, p6, A0, this]
  ·obtain ⟨m, hm1, hm⟩ := Aa (hF.node _ e)
   rw [hm1] at p1
   cases c1 : decide (0 ≤ (t.at m).thread) with
   | false =>
    have ho : HL t (Hy t x f i w0) = true := by
     have := of_decide_eq_false c1
     rw [hm1, HL, Int.toNat_natCast, decide_eq_true (show (t.at m).thread < 0 by omega), Bool.or_true]
    have := hend (.inl ho)
    simp only [Q7, JI, go_sem, ↓reduceIte, p0, p1, p5, p6, A0, Hw C t x f hm, c1, this]
   | true =>
    have ho : HL t (Hy t x f i w0) = false := by
     have := of_decide_eq_true c1
     rw [hm1, HL, Int.toNat_natCast, decide_eq_false (show ¬ (t.at m).thread < 0 by omega), decide_eq_false (show ¬ (m : Int) < 0 by omega)]; rfl
    have hway := A8v C ht hF hw0 hoff
    have hh := hway.has h64 (m : Int)
    cases c2 : Be (JM t x f w0 i) (m : Int) with
    | true =>
     rw [c2] at hh
     have := hend (.inr (by rw [hm1]; exact Ai.1 c2))
     simp only [Q7, JI, go_sem, ↓reduceIte, p0, p1, p5, p6, A0, Hw C t x f hm, c1, AX C, hh, this]
    | false =>
     rw [c2] at hh
     simp only [Q7, JI, go_sem, ↓reduceIte, p0, p1, p5, p6, A0, Hw C t x f hm, c1, AX C, hh, A0o C t ht x f hF.node hm, D6 C, Ua C t ht x f hF.node hm]
     refine ⟨i + 1, by omega, by rw [Hy, hm1], by rw [A0w, hm1], by rw [Sw, hm1, Dv, Dv, List.foldl_append]; rfl, fun j hj => ?_, ?_⟩
     ·rcases Nat.lt_or_ge j i with h1 | h1
      ·exact hoff j h1
      ·rw [show j = i by omega]; exact ho
     ·rw [Sw, hm1]
      have : (m : Int) ∉ JM t x f w0 i := fun h => by rw [Ai.2 h] at c2; cases c2
      exact List.nodup_append.2 ⟨hnd, by simp, fun a ha b hb e => this (by simp at hb; rw [← hb, ← e]; exact ha)⟩
 ·simp only [JI, go_sem, ↓reduceIte]
 ·simp only [JI, go_sem, ↓reduceIte]
  rfl
 ·simp only [JI, go_sem, ↓reduceIte]
  rfl
 ·simp only [JI, go_sem, ↓reduceIte]
  rfl
end
end Go.AM

namespace Go.AM
open Go Go.Proofs
theorem Akd : min 5 (4 + 3) + (1 + (4 + 3 - 6)) = 7 := rfl
theorem UI (t : A5) (x : List Int) (k : Nat) : Bb t x k = (!(decide (x.getD k 0 < 0) || decide ((t.nodes.length : Int) ≤ x.getD k 0) || (!decide (k = 0) && decide (x.getD k 0 ≤ x.getD (k - 1) 0)))) := by
 unfold Bb C3 CL
 rw [Bool.eq_iff_iff]
 simp only [Bool.and_eq_true, Bool.or_eq_true, Bool.not_eq_true', Bool.or_eq_false_iff, decide_eq_true_eq, decide_eq_false_iff_not, Bool.and_eq_false_iff, Bool.not_eq_false']
 constructor
 ·rintro ⟨⟨a, b⟩, c⟩
  exact ⟨⟨by omega, by omega⟩, c.imp id (by omega)⟩
 ·rintro ⟨⟨a, b⟩, c⟩
  exact ⟨⟨by omega, by omega⟩, c.imp id (by omega)⟩
def onH (t : A5) (x f : List Int) (k : Nat) : VH := [some ⟨AU, 1, 0, false, (Wa t x f k).map eI⟩, some ⟨NA, 0, 0, false, [[.i .i64 t.vals, lS t.locs, .ls (t.regs.map JA), .ls (t.nodes.map eN), vW (Dv x), .sl 0 0 0 t.nodes.length, lW (AB t.nodes.length fun a b => Aw t a b)]]⟩]
def A73 (t : A5) (x f : List Int) : VH := [some ⟨AU, 1, 0, false, (onL t x f).map eI⟩, some ⟨NA, 0, 0, false, [[.i .i64 t.vals, lS t.locs, .ls (t.regs.map JA), .ls (t.nodes.map eN), vW (Dv x), .sl 0 0 0 t.nodes.length, lW (AB t.nodes.length fun a b => Aw t a b)]]⟩]
theorem A8J (t : A5) (x f : List Int) : onH t x f x.length = A73 t x f := by rw [onH, A8o]; rfl
theorem A1A {t : A5} {x f : List Int} {k m : Nat} (h : m < t.nodes.length) : (Wa t x f k)[m]? = some (Jx (x.take k) f (m : Int)) := by simp [Wa, h]
theorem QD (t : A5) (x f : List Int) : (onL t x f).take t.nodes.length = onL t x f := List.take_of_length_le (by rw [Pv]; omega)
section
variable {V : At} (C : AS V) {Q : VV → Prop}
include C
set_option maxHeartbeats 8000000 in
theorem A4a (t : A5) (ht : Aj t) (x f : List Int) (hF : En t x f) : VP V A1i [Sx t x f, .f QH [Sx t x f] [], .f QV [Sx t x f] []] Q ↔ Q (lW (AB t.nodes.length (swB t x f))) := by
 refine Ab ?_
 rw [A8 C.c_z74.1 C.c_z74.2]
 have h64 := ht.n64
 have hx := hF.node
 have hll := Dj (Dv x)
 have hLm := fun y => hx.list h64 y
 simp only [A5k, EV, go_sem, ↓reduceIte, A0u C _ h64, DM C]
 refine Am (by decide) (Az (Dv x)).length (by omega) (I := fun k F h => A3.tmp F 0 = Sx t x f ∧ A3.tmp F 1 = .f QH [Sx t x f] [] ∧ A3.tmp F 2 = .f QV [Sx t x f] [] ∧ A3.tmp F 7 = .sl 0 0 0 t.nodes.length ∧ A3.tmp F 24 = lI (Az (Dv x)) ∧ h = [some ⟨Bj, 1, 0, false, (AB t.nodes.length (P5 t x f ((Az (Dv x)).take k))).map eW⟩]) ?_ ?_ 0 _ _ (by omega) ?_ ?_ ?_
 ·rintro k F h hk p26 p25 ⟨p0, p1, p2, p7, p24, rfl⟩
  have hkm : (Az (Dv x)).getD k 0 ∈ x := (hLm _).1 (Ap (d := 0) hk)
  obtain ⟨r, hr1, hr⟩ := Aa (hx _ hkm)
  have hrx : (r : Int) ∈ x := by rw [← hr1]; exact hkm
  have hnext : ∀ a b, P5 t x f ((Az (Dv x)).take (k + 1)) a b = (P5 t x f ((Az (Dv x)).take k) a b || (JL t x f r && BR (AN t x f (Jx x f r)) (a : Int) && EF t x r b)) := fun a b => by rw [Xl hk, hr1]
  have same : JL t x f r = false → AB t.nodes.length (P5 t x f ((Az (Dv x)).take k)) = AB t.nodes.length (P5 t x f ((Az (Dv x)).take (k + 1))) := fun e => B0 fun a b _ _ => by rw [hnext, e]; simp
  have hsaw : JL t x f r = (decide ((t.at r).kind = 2) && !decide ((t.at (Jx x f r).toNat).thread = (t.at r).thread)) := by rw [JL, Int.toNat_natCast]
  by_cases ck : (t.at r).kind = 2
  ·obtain ⟨o1, o2, o3⟩ := hF.read _ hrx (by rw [Int.toNat_natCast]; exact ck)
   obtain ⟨w, hw1, hw⟩ := Aa (hx _ o1)
   rw [hw1] at o1
   have d0 : decide ((w : Int) < 0) = false := decide_eq_false (by omega)
   cases c2 : decide ((t.at w).thread = (t.at r).thread) with
   | true =>
    have hs := same (by rw [hsaw, hw1, Int.toNat_natCast, c2]; simp)
    simp only [EV, go_sem, ↓reduceIte, p26, p25, p0, p1, p2, p7, p24, Aq hk, hk, hr1, J4 hr, hw1, d0, A4 hw, A4 hr, c2, A0, hs]
   | false =>
    have hs : JL t x f r = true := by rw [hsaw, hw1, Int.toNat_natCast, c2, decide_eq_true ck]; rfl
    have hh := fun (Q : VV → Prop) => Tc C t ht x f hF o1 (Q := Q)
    simp only [EV, go_sem, ↓reduceIte, p26, p25, p0, p1, p2, p7, p24, Aq hk, hk, hr1, J4 hr, hw1, d0, A4 hw, A4 hr, c2, A0, hh, DM C]
    have hlh := Dj (AN t x f w)
    have hends := fun (Q : VV → Prop) => Xc C t ht x f hx hr (Q := Q)
    let M := fun (j : Nat) (a b : Nat) => P5 t x f ((Az (Dv x)).take k) a b || (Be ((Az (AN t x f w)).take j) (a : Int) && EF t x r b)
    refine Am (by decide) (Az (AN t x f w)).length (by omega) (I := fun j F h => A3.tmp F 26 = .i .i64 k ∧ A3.tmp F 25 = .i .i64 (Az (Dv x)).length ∧ A3.tmp F 0 = Sx t x f ∧ A3.tmp F 1 = .f QH [Sx t x f] [] ∧ A3.tmp F 2 = .f QV [Sx t x f] [] ∧ A3.tmp F 7 = .sl 0 0 0 t.nodes.length ∧ A3.tmp F 24 = lI (Az (Dv x)) ∧ A3.tmp F 9 = .i .i64 r ∧ A3.tmp F 63 = lI (Az (AN t x f w)) ∧ h = [some ⟨Bj, 1, 0, false, (AB t.nodes.length (M j)).map eW⟩]) ?_ ?_ 0 _ _ (by omega) ?_ ?_ ?_
    ·rintro j F h hj q65 q64 ⟨q26, q25, q0, q1, q2, q7, q24, q9, q63, rfl⟩
     have hmem := (Dg (s := AN t x f w)).1 (Ap (d := 0) hj)
     obtain ⟨a0, _⟩ := Gf hmem
     obtain ⟨a, ha1⟩ := Int.eq_ofNat_of_zero_le a0
     have ha : a < t.nodes.length := R0 ht hF o1 (by rw [ha1, AT] at hmem; exact hmem)
     have hset := SO ha (M j) (EF t x r) fun b hb => A4y hx hrx hb
     have hM : AB t.nodes.length (fun i b => M j i b || (decide (i = a) && EF t x r b)) = AB t.nodes.length (M (j + 1)) := B0 fun i b _ _ => by
      simp only [M]
      rw [List.take_succ_eq_append_getElem hj]
      have e : Be ((Az (AN t x f w)).take j ++ [(Az (AN t x f w))[j]]) (i : Int) = (Be ((Az (AN t x f w)).take j) (i : Int) || decide (i = a)) := by
       rw [List.getD_eq_getElem?_getD, List.getElem?_eq_getElem hj, Option.getD_some] at ha1
       rw [ha1, Bool.eq_iff_iff, Ai, List.mem_append, Bool.or_eq_true, Ai, decide_eq_true_eq, List.mem_singleton]
       exact ⟨fun h => h.imp id fun h => by omega, fun h => h.imp id fun h => by omega⟩
      rw [e]
      cases P5 t x f ((Az (Dv x)).take k) i b <;> cases Be ((Az (AN t x f w)).take j) (i : Int) <;> cases decide (i = a) <;> cases EF t x r b <;> rfl
     rw [hM] at hset
     simp only [EV, go_sem, ↓reduceIte, q65, q64, q26, q25, q0, q1, q2, q7, q24, q9, q63, Aq hj, hj, ha1, E0 ha, hends, A0, hset, BG, ha]
    ·rintro F h ⟨q26, q25, q0, q1, q2, q7, q24, q9, q63, rfl⟩
     have hM : AB t.nodes.length (M (Az (AN t x f w)).length) = AB t.nodes.length (P5 t x f ((Az (Dv x)).take (k + 1))) := B0 fun a b _ _ => by
      simp only [M]
      rw [List.take_length, hnext, hs, hw1, Bool.true_and]
      have e : Be (Az (AN t x f w)) (a : Int) = BR (AN t x f w) (a : Int) := by rw [Bool.eq_iff_iff, Ai, Dg]
      rw [e]
     simp only [EV, go_sem, ↓reduceIte, q26, q25, q0, q1, q2, q7, q24, hM]
    ·simp only [EV, go_sem, ↓reduceIte]
    ·simp only [EV, go_sem, ↓reduceIte]
    ·simp only [EV, go_sem, ↓reduceIte, p26, p25, p0, p1, p2, p7, p24]
     have hM : AB t.nodes.length (M 0) = AB t.nodes.length (P5 t x f ((Az (Dv x)).take k)) := B0 fun a b _ _ => by simp only [M, List.take_zero, Be, List.any_nil, Bool.false_and, Bool.or_false]
     rw [hM]
  ·have o1 := hF.none _ hrx (by rw [Int.toNat_natCast]; exact ck)
   have hs := same (by rw [hsaw, decide_eq_false ck]; rfl)
   simp only [EV, go_sem, ↓reduceIte, p26, p25, p0, p1, p2, p7, p24, Aq hk, hk, hr1, J4 hr, o1, A0]
   rw [hs]
 ·rintro F h ⟨p0, p1, p2, p7, p24, rfl⟩
  have e : AB t.nodes.length (P5 t x f (Az (Dv x))) = AB t.nodes.length (swB t x f) := B0 fun a b _ _ => A98 hLm a b
  simp only [EV, go_sem, ↓reduceIte, p0, p1, p2, p7, p24, BG]
  rw [List.take_of_length_le (by rw [BG]; omega), e]
 ·simp only [EV, go_sem, ↓reduceIte]
 ·simp only [EV, go_sem, ↓reduceIte]
 ·simp only [EV, go_sem, ↓reduceIte]
  rw [← SC]; rfl
set_option maxHeartbeats 8000000 in
theorem A4q (t : A5) (ht : Aj t) (x f : List Int) (hl : x.length ≤ 1000) (hlf : f.length ≤ 1000) : VP V A2O [vT t, lI x, lI f] Q ↔ Q (if Cv t x f = true then .tu [Sx t x f, .b true] else .tu [.np, .b false]) := by
 refine Ab ?_
 rw [A8 C.c_z70.1 C.c_z70.2]
 have h64 := ht.n64
 have hn1 : 0 < t.nodes.length := by
  obtain ⟨s, h0, he, hs⟩ := ht.thr
  have h1 := ht.r1
  obtain ⟨_, n, hB⟩ := hs 0 (by omega)
  cases n with
  | zero => exact absurd hB (by simp [JP])
  | succ n => have := hB.1.1; omega
 have hmay := fun (Q : VV → Prop) => Nh C t ht (Q := Q)
 have hpo := fun (Q : VV → Prop) => A4V C t ht (Q := Q)
 by_cases c1 : x.length = f.length
 ·have c1' : decide ((f.length : Int) = (x.length : Int)) = true := decide_eq_true (by omega)
  simp only [A1N, DP, go_sem, ↓reduceIte, hmay, c1', Nb C x (by omega), Np C _ h64 hn1, hpo, Afs, Akd]
  refine Am (by decide) x.length (by omega) (I := fun k F h => A3.tmp F 1 = lI x ∧ A3.tmp F 2 = lI f ∧ A3.tmp F 3 = .fp (eT t) 0 ∧ A3.tmp F 8 = .p 1 0 0 0 ∧ A3.tmp F 35 = lI x ∧ h = onH t x f k ∧ ∀ j, j < k → Bb t x j = true) ?_ ?_ 0 _ _ (by omega) ?_ ?_ ?_
  ·rintro k F h hk p37 p36 ⟨p1, p2, p3, p8, p35, rfl, pr⟩
   have hkf : k < f.length := by omega
   have bad : Bb t x k = false → Cv t x f = false := fun h => by rw [Cv, AZ hk h]; simp
   have hnr := UI t x k
   cases d1 : decide (x.getD k 0 < 0) with
   | true =>
    have e := bad (by rw [hnr, d1]; rfl)
    simp only [DP, go_sem, ↓reduceIte, p37, p36, p1, p2, p3, p8, p35, Aq hk, hk, d1, A0, e]
   | false =>
   cases d2 : decide ((t.nodes.length : Int) ≤ x.getD k 0) with
   | true =>
    have e := bad (by rw [hnr, d1, d2]; rfl)
    simp only [DP, go_sem, ↓reduceIte, p37, p36, p1, p2, p3, p8, p35, Aq hk, hk, d1, d2, A0, e]
   | false =>
   have d1' := of_decide_eq_false d1
   have d2' := of_decide_eq_false d2
   obtain ⟨m, hm1⟩ := Int.eq_ofNat_of_zero_le (show 0 ≤ x.getD k 0 by omega)
   have hm : m < t.nodes.length := by omega
   have d2n : decide (t.nodes.length ≤ m) = false := decide_eq_false (by omega)
   have hset : (∀ i, i ≤ k → CL x i = true) → _ := A8X (t := t) (f := f) hk hm1 hm
   have hris0 : ∀ i, i < k → CL x i = true := fun i hi => by have := pr i hi; simp only [Bb, Bool.and_eq_true] at this; exact this.2
   have hgo : Bb t x k = true → ∀ j, j < k + 1 → Bb t x j = true := fun h j hj => by
    rcases Nat.lt_or_ge j k with c | c
    ·exact pr j c
    ·rw [show j = k by omega]; exact h
   by_cases z : k = 0
   ·subst z
    have hok : Bb t x 0 = true := by rw [hnr, d1, d2]; rfl
    have hs := hset fun i hi => by rw [Nat.le_zero.1 hi]; rfl
    rw [hm1] at d1 d2
    simp only [DP, go_sem, ↓reduceIte, p37, p36, p1, p2, p3, p8, p35, Aq hk, Aq hkf, hk, hkf, d1, d2n, A0, hm1, onH, hm, A1U, dz0, hs, A1A hm]
    exact hgo hok
   ·have z0 : decide ((0 : Int) < (k : Int)) = true := decide_eq_true (by omega)
    have hk1 : k - 1 < x.length := by omega
    have zw := Ee (show 0 < k by omega) (by omega)
    cases d3 : decide (x.getD k 0 ≤ x.getD (k - 1) 0) with
    | true =>
     have e := bad (by rw [hnr, d1, d2, d3, decide_eq_false z]; rfl)
     rw [hm1] at d1 d2 d3
     simp only [DP, go_sem, ↓reduceIte, p37, p36, p1, p2, p3, p8, p35, Aq hk, Aq hk1, hk, d1, d2n, d3, z0, zw, A0, hm1, e]
    | false =>
     have hok : Bb t x k = true := by rw [hnr, d1, d2, d3]; simp
     have hs := hset fun i hi => by
      rcases Nat.lt_or_ge i k with c | c
      ·exact hris0 i c
      ·rw [show i = k by omega]; simp only [Bb, Bool.and_eq_true] at hok; exact hok.2
     rw [hm1] at d1 d2 d3
     simp only [DP, go_sem, ↓reduceIte, p37, p36, p1, p2, p3, p8, p35, Aq hk, Aq hk1, Aq hkf, hk, hkf, d1, d2n, d3, z0, zw, A0, hm1, onH, hm, A1U, hs, A1A hm]
     exact hgo hok
  ·rintro F h ⟨p1, p2, p3, p8, p35, rfl, pr⟩
   rw [A8J]
   have hnode : Cw t x := by
    intro n hn
    obtain ⟨i, hi, rfl⟩ := List.getElem_of_mem hn
    have := pr i hi
    simp only [Bb, Bool.and_eq_true] at this
    have h2 := this.1
    rwa [List.getD_eq_getElem?_getD, List.getElem?_eq_getElem hi] at h2
   simp only [DP, go_sem, ↓reduceIte, p1, p2, p3, p8, p35]
   refine Am (by decide) x.length (by omega) (I := fun k F h => A3.tmp F 8 = .p 1 0 0 0 ∧ A3.tmp F 75 = lI x ∧ h = A73 t x f ∧ ∀ j, j < k → HY t x f (x.getD j 0) = true) ?_ ?_ 0 _ _ (by omega) ?_ ?_ ?_
   ·rintro k F h hk p77 p76 ⟨p8, p75, rfl, qr⟩
    have bad : HY t x f (x.getD k 0) = false → Cv t x f = false := fun h => by rw [Wf, AZ (p := fun i => HY t x f (x.getD i 0)) hk h, Bool.and_false]
    obtain ⟨m, hm1, hm⟩ := Aa (hnode _ (Ap (d := 0) hk))
    have hr := fun (Q : VV → Prop) => TO C t ht x f hnode hm (Q := Q)
    cases c2 : HY t x f m with
    | true =>
     simp only [DP, go_sem, ↓reduceIte, p77, p76, p8, p75, Aq hk, hk, hm1, A73, hr, c2, A0, Pv, QD]
     intro j hj
     rcases Nat.lt_or_ge j k with c | c
     ·exact qr j c
     ·rw [show j = k by omega, hm1]; exact c2
    | false =>
     have e := bad (by rw [hm1]; exact c2)
     simp only [DP, go_sem, ↓reduceIte, p77, p76, p8, p75, Aq hk, hk, hm1, A73, hr, c2, A0, Pv, QD, e]
   ·rintro F h ⟨p8, p75, rfl, qr⟩
    have e : Cv t x f = true := by rw [Wf, decide_eq_true c1, AY pr, AY qr]; rfl
    simp only [DP, go_sem, ↓reduceIte, p8, p75, A73, e, Pv, QD]
   ·simp only [DP, go_sem, ↓reduceIte]
   ·simp only [DP, go_sem, ↓reduceIte]
   ·simp only [DP, go_sem, ↓reduceIte, p8]
    intro j hj; omega
  ·simp only [DP, go_sem, ↓reduceIte]
  ·simp only [DP, go_sem, ↓reduceIte]
  ·simp only [DP, go_sem, ↓reduceIte, onH, A6X]
   intro j hj; omega
 ·have c1' : decide ((f.length : Int) = (x.length : Int)) = false := decide_eq_false (by omega)
  have e : Cv t x f = false := by rw [Cv, decide_eq_false c1]; rfl
  simp only [A1N, DP, go_sem, ↓reduceIte, hmay, c1', e]
theorem A4n (t : A5) (ht : Aj t) (x f : List Int) (hl : x.length ≤ 1000) (hlf : f.length ≤ 1000) : VP V WF [vT t, lI x, lI f] Q ↔ Q (lW (hbF t x f)) := by
 refine Ab ?_
 rw [A8 C.c_z27.1 C.c_z27.2]
 have h64 := ht.n64
 have hof := fun (Q : VV → Prop) => A4q C t ht x f hl hlf (Q := Q)
 cases c : Cv t x f with
 | false =>
  rw [hbF, c]
  simp only [A3s, XP, go_sem, ↓reduceIte, hof, c, Bool.false_eq_true]
 | true =>
  have hF := GG c
  rw [hbF, c]
  have hsw := fun (Q : VV → Prop) => A4a C t ht x f hF (Q := Q)
  simp only [A3s, XP, go_sem, ↓reduceIte, hof, c, hsw, Zh C, A5O C, Uq C]
  rw [A0G h64, A5r h64, Wt]
  congr 2
  apply B0
  intro a b _ _
  rw [hF.node.has h64, hF.node.has h64]
  rfl
end
end Go.AM

namespace Go.AM
open Go Go.Proofs
section
variable {V : At} (C : AS V) {Q : VV → Prop}
include C
set_option maxHeartbeats 8000000 in
theorem Mt (t : A5) (ht : Aj t) (x f : List Int) (hl : x.length ≤ 1000) (hlf : f.length ≤ 1000) : VP V A1I [vT t, lI x, lI f] Q ↔ Q (.b (Cv t x f)) := by
 refine Ab ?_
 rw [A8 C.c_z82.1 C.c_z82.2]
 have h64 := ht.n64
 by_cases c1 : x.length = f.length
 ·have c1' : decide ((x.length : Int) = (f.length : Int)) = true := decide_eq_true (by omega)
  simp only [A38, CU, go_sem, ↓reduceIte, c1']
  refine Ad (by decide) x.length (by omega) (I := fun k F h => A3.tmp F 1 = lI x ∧ A3.tmp F 2 = lI f ∧ A3.tmp F 3 = .fp (eT t) 0 ∧ h = [] ∧ ∀ j, j < k → Bb t x j = true) ?_ ?_ ?_ 0 _ _ (Nat.zero_le _) ?_ ?_
  ·rintro k F h hk p7 ⟨p1, p2, p3, rfl, pr⟩
   simp only [CU, go_sem, ↓reduceIte, p7, p1, p2, p3]
   exact pr
  ·rintro k F h hk p7 ⟨p1, p2, p3, rfl, pr⟩
   have bad : Bb t x k = false → Cv t x f = false := fun h => by rw [Cv, AZ hk h]; simp
   have hgo : Bb t x k = true → ∀ j, j < k + 1 → Bb t x j = true := fun h j hj => by
    rcases Nat.lt_or_ge j k with c | c
    ·exact pr j c
    ·rw [show j = k by omega]; exact h
   cases d1 : C3 t (x.getD k 0) with
   | false =>
    have e := bad (by rw [Bb, d1]; rfl)
    simp only [CU, go_sem, ↓reduceIte, p7, p1, p2, p3, Aq hk, hk, Al C, d1, A0, e]
   | true =>
    by_cases z : k = 0
    ·subst z
     have hok : Bb t x 0 = true := by rw [Bb, d1]; rfl
     simp only [CU, go_sem, ↓reduceIte, p7, p1, p2, p3, Aq hk, hk, Al C, d1, A0, dz0]
     exact hgo hok
    ·have z0 : decide ((0 : Int) < (k : Int)) = true := decide_eq_true (by omega)
     have hk1 : k - 1 < x.length := by omega
     have zw := Ee (show 0 < k by omega) (by omega)
     cases d3 : decide (x.getD k 0 ≤ x.getD (k - 1) 0) with
     | true =>
      have d3' : decide (x.getD (k - 1) 0 < x.getD k 0) = false := by have := of_decide_eq_true d3; exact decide_eq_false (by omega)
      have e := bad (by rw [Bb, d1, CL, d3', decide_eq_false z]; rfl)
      simp only [CU, go_sem, ↓reduceIte, p7, p1, p2, p3, Aq hk, Aq hk1, hk, Al C, d1, A0, z0, zw, d3, e]
     | false =>
      have d3' : decide (x.getD (k - 1) 0 < x.getD k 0) = true := by have := of_decide_eq_false d3; exact decide_eq_true (by omega)
      have hok : Bb t x k = true := by rw [Bb, d1, CL, d3']; simp
      simp only [CU, go_sem, ↓reduceIte, p7, p1, p2, p3, Aq hk, Aq hk1, hk, Al C, d1, A0, z0, zw, d3]
      exact hgo hok
  ·rintro F h ⟨p1, p2, p3, rfl, pr⟩
   have hnode : Cw t x := by
    intro n hn
    obtain ⟨i, hi, rfl⟩ := List.getElem_of_mem hn
    have := pr i hi
    simp only [Bb, Bool.and_eq_true] at this
    have h2 := this.1
    rwa [List.getD_eq_getElem?_getD, List.getElem?_eq_getElem hi] at h2
   simp only [CU, go_sem, ↓reduceIte, p1, p2, p3]
   refine Ad (by decide) x.length (by omega) (I := fun k F h => A3.tmp F 1 = lI x ∧ A3.tmp F 2 = lI f ∧ A3.tmp F 3 = .fp (eT t) 0 ∧ h = [] ∧ ∀ j, j < k → Dw t x f j = true) ?_ ?_ ?_ 0 _ _ (Nat.zero_le _) ?_ ?_
   ·rintro k F h hk p8 ⟨p1, p2, p3, rfl, qr⟩
    simp only [CU, go_sem, ↓reduceIte, p8, p1, p2, p3]
    exact qr
   ·rintro k F h hk p8 ⟨p1, p2, p3, rfl, qr⟩
    have hkf : k < f.length := by omega
    have bad : Dw t x f k = false → Cv t x f = false := fun h => by rw [Cv, AZ hk h]; simp
    have hgo : Dw t x f k = true → ∀ j, j < k + 1 → Dw t x f j = true := fun h j hj => by
     rcases Nat.lt_or_ge j k with c | c
     ·exact qr j c
     ·rw [show j = k by omega]; exact h
    obtain ⟨m, hm1, hm⟩ := Aa (hnode _ (Ap (d := 0) hk))
    have hfo : Dw t x f k = if (t.at m).kind = 2 then Be x (f.getD k 0) && HG t (f.getD k 0) (t.at m).loc else decide (f.getD k 0 = -1) := by rw [Dw, hm1, Int.toNat_natCast]
    cases c2 : decide ((t.at m).kind = 2) with
    | false =>
     rw [if_neg (of_decide_eq_false c2)] at hfo
     cases c3 : decide (f.getD k 0 = -1) with
     | true =>
      simp only [CU, go_sem, ↓reduceIte, p8, p1, p2, p3, Aq hk, Aq hkf, hk, hkf, hm1, A4 hm, c2, c3, A0]
      exact hgo (by rw [hfo, c3])
     | false =>
      have e := bad (by rw [hfo, c3])
      simp only [CU, go_sem, ↓reduceIte, p8, p1, p2, p3, Aq hk, Aq hkf, hk, hkf, hm1, A4 hm, c2, c3, A0, e]
    | true =>
     rw [if_pos (of_decide_eq_true c2)] at hfo
     have hwl := BT x (f.getD k 0)
     cases c3 : Be x (f.getD k 0) with
     | false =>
      have e := bad (by rw [hfo, c3]; rfl)
      rw [c3] at hwl
      simp only [CU, go_sem, ↓reduceIte, p8, p1, p2, p3, Aq hk, Aq hkf, hk, hkf, hm1, A4 hm, c2, A0, e, A9 C x (by omega), hwl]
     | true =>
      rw [c3] at hwl
      obtain ⟨w, hw1, hw⟩ := Aa (hnode _ (Ai.1 c3))
      have hiw : HG t (f.getD k 0) (t.at m).loc = (decide ((t.at w).kind = 3) && decide ((t.at w).loc = (t.at m).loc)) := by rw [HG, hw1, Int.toNat_natCast]
      rw [c3, Bool.true_and, hiw] at hfo
      rw [hw1] at hwl
      cases c4 : decide ((t.at w).kind = 3) with
      | false =>
       have e := bad (by rw [hfo, c4]; rfl)
       simp only [CU, go_sem, ↓reduceIte, p8, p1, p2, p3, Aq hk, Aq hkf, hk, hkf, hm1, hw1, A4 hm, A4 hw, c2, c4, A0, e, A9 C x (by omega), hwl]
      | true =>
       cases c5 : decide ((t.at w).loc = (t.at m).loc) with
       | false =>
        have e := bad (by rw [hfo, c4, c5]; rfl)
        simp only [CU, go_sem, ↓reduceIte, p8, p1, p2, p3, Aq hk, Aq hkf, hk, hkf, hm1, hw1, A4 hm, A4 hw, c2, c4, c5, A0, e, A9 C x (by omega), hwl]
       | true =>
        simp only [CU, go_sem, ↓reduceIte, p8, p1, p2, p3, Aq hk, Aq hkf, hk, hkf, hm1, hw1, A4 hm, A4 hw, c2, c4, c5, A0, A9 C x (by omega), hwl]
        exact hgo (by rw [hfo, c4, c5]; rfl)
   ·rintro F h ⟨p1, p2, p3, rfl, qr⟩
    have e : Cv t x f = true := by rw [Cv, decide_eq_true c1, AY pr, AY qr]; rfl
    simp only [CU, go_sem, ↓reduceIte, p1, p2, p3, e]
   ·simp only [CU, go_sem, ↓reduceIte]
   ·simp only [CU, go_sem, ↓reduceIte, p1, p2, p3]
    intro j hj; omega
  ·simp only [CU, go_sem, ↓reduceIte]
  ·simp only [CU, go_sem, ↓reduceIte]
   intro j hj; omega
 ·have c1' : decide ((x.length : Int) = (f.length : Int)) = false := decide_eq_false (by omega)
  have e : Cv t x f = false := by rw [Cv, decide_eq_false c1]; rfl
  simp only [A38, CU, go_sem, ↓reduceIte, c1', e]
omit C in
/-- What a write brings, by and by. -/
theorem Zb (t : A5) (x f : List Int) (k : Nat) (w : Int) (h : HL t w = false) : JD t x f (k + 1) w = Mu t x w ||| JD t x f k (Yp t x f w) := by rw [JD, h]; rfl
omit C in
theorem Nx (t : A5) (x f : List Int) (k : Nat) (w : Int) (h : HL t w = true) : JD t x f k w = 0#64 := by
 cases k with
 | zero => rfl
 | succ k => rw [JD, h]; rfl
omit C in
theorem A53 {t : A5} (ht : Aj t) {x : List Int} (hx : Cw t x) {w : Nat} (hw : w < t.nodes.length) (hth : 0 ≤ (t.at w).thread) (s : BitVec 64) :
  CX (fun n => decide ((t.at n.toNat).kind = 4) && E8 (t.at n.toNat) && decide ((t.at n.toNat).thread = (t.at w).thread) && Aw t n w) (if E8 (t.at w) = true then s ||| Cy w else s) x = s ||| Mu t x w := by
 apply BV
 intro j hj
 rw [Nj _ j hj, BitVec.getLsbD_or, Mu, AH, A6q, decide_eq_true hj, Bool.and_true]
 have e0 : (if E8 (t.at w) = true then s ||| Cy (w : Int) else s).getLsbD j = (s.getLsbD j || (decide ((j : Int) = (w : Int)) && E8 (t.at j))) := by
  by_cases c : E8 (t.at w) = true
  ·rw [if_pos c, BitVec.getLsbD_or, Cz]
   by_cases e : j = w
   ·subst e; simp [c, hj]
   ·have : ¬ (j : Int) = (w : Int) := by omega
    simp [this]
  ·rw [if_neg c]
   by_cases e : j = w
   ·subst e; simp [c]
   ·have : ¬ (j : Int) = (w : Int) := by omega
    simp [this]
 have e1 : (Be x (j : Int) && (decide ((t.at j).kind = 4) && E8 (t.at j) && decide ((t.at j).thread = (t.at w).thread) && Aw t j w)) = (Be x (j : Int) && decide ((t.at j).kind = 4) && E8 (t.at j) && Aw t j w) := by
  cases c1 : Be x (j : Int) with
  | false => rfl
  | true =>
   obtain ⟨m, hm1, hm⟩ := Aa (hx _ (Ai.1 c1))
   have hmj : m = j := by omega
   subst hmj
   cases c2 : decide ((t.at m).kind = 4) with
   | false => rfl
   | true =>
    cases c3 : Aw t m w with
    | false => simp
    | true =>
     have hl : t.locs.length ≤ m := by
      rcases Nat.lt_or_ge m t.locs.length with h | h
      ·have := (ht.init m h).kind; have := of_decide_eq_true c2; omega
      ·exact h
     have hb : B7 t m w = true := by
      simp only [Aw, Da hm, Da hw, Int.toNat_natCast, Bool.true_and] at c3
      rw [if_neg (by have := (ht.good m hl hm).thr; omega)] at c3
      exact c3
     have := YI ht hl (w + 1) w (by omega) hw hb
     simp [this]
 simp only [Int.toNat_natCast]
 rw [e0, e1]
 cases s.getLsbD j <;> cases decide ((j : Int) = (w : Int)) <;> cases E8 (t.at j) <;> simp
set_option maxHeartbeats 8000000 in
theorem Rw (t : A5) (ht : Aj t) (x f : List Int) (hl : x.length ≤ 1000) (hlf : f.length ≤ 1000) (hc : Cv t x f = true) {w0 : Nat} (hw0 : (w0 : Int) ∈ x) (hk0 : (t.at w0).kind = 3) : VP V UJ [vT t, lI x, lI f, .i .i64 w0] Q ↔ Q (vW (AN t x f w0)) := by
 refine Ab ?_
 rw [A8 C.c_z126.1 C.c_z126.2]
 have h64 := ht.n64
 have hF := GG hc
 have hx := hF.node
 obtain ⟨w0', hw1', hw0n⟩ := Aa (hx _ hw0)
 have : w0' = w0 := by omega
 subst this
 have hfr := fun (Q : VV → Prop) => Mt C t ht x f hl hlf (Q := Q)
 have hwl := BT x (w0' : Int)
 rw [Ai.2 hw0] at hwl
 simp only [A0a, Cp, go_sem, ↓reduceIte, hfr, hc, A9 C x (by omega), hwl, A4 hw0n, hk0]
 refine Ad (by decide) (x.length + 1) (by omega) (I := fun k F h => A3.tmp F 1 = lI x ∧ A3.tmp F 2 = lI f ∧ A3.tmp F 4 = .fp (eT t) 0 ∧ h = [] ∧ ∃ (s : BitVec 64) (w : Nat), A3.tmp F 9 = vW s ∧ A3.tmp F 3 = .i .i64 w ∧ (w : Int) ∈ x ∧ k ≤ x.length + 1 ∧ s ||| JD t x f (x.length + 1 - k) w = AN t x f w0') ?_ ?_ ?_ 0 _ _ (Nat.zero_le _) ?_ ?_
 ·rintro k F h hk p10 ⟨p1, p2, p4, rfl, s, w, p9, p3, hw, hkl, hs⟩
  have e : decide ((k : Int) ≤ (x.length : Int)) = decide (k < x.length + 1) := decide_eq_decide.2 ⟨fun h => by omega, fun h => by omega⟩
  have e' : decide (k ≤ x.length) = decide (k < x.length + 1) := decide_eq_decide.2 ⟨fun h => by omega, fun h => by omega⟩
  simp only [Cp, go_sem, ↓reduceIte, p10, p1, p2, p4, p9, p3, e, e']
  exact ⟨s, rfl, w, rfl, hw, hkl, hs⟩
 ·rintro k F h hk p10 ⟨p1, p2, p4, rfl, s, w, p9, p3, hw, hkl, hs⟩
  obtain ⟨w', hw1, hwn⟩ := Aa (hx _ hw)
  have : w' = w := by omega
  subst this
  cases c1 : decide ((t.at w').thread < 0) with
  | true =>
   have ho : HL t w' = true := by rw [HL, Int.toNat_natCast, c1, Bool.or_true]
   rw [Nx _ _ _ _ _ ho] at hs
   simp only [BitVec.or_zero] at hs
   simp only [Cp, go_sem, ↓reduceIte, p10, p1, p2, p4, p9, p3, A4 hwn, c1, A0, hs]
  | false =>
   have hth : 0 ≤ (t.at w').thread := by have := of_decide_eq_false c1; omega
   have ho : HL t w' = false := by rw [HL, Int.toNat_natCast, c1, decide_eq_false (by omega)]; rfl
   have hst : x.length + 1 - k = (x.length + 1 - (k + 1)) + 1 := by omega
   rw [hst, Zb _ _ _ _ _ ho, ← BitVec.or_assoc] at hs
   have hown := A53 ht hx hwn hth s
   generalize hs1 : (if E8 (t.at w') = true then s ||| Cy (w' : Int) else s) = s1 at hown
   cases c2 : E8 (t.at w') <;> simp only [c2, Bool.false_eq_true, if_true, if_false] at hs1 <;> (
   simp only [Cp, go_sem, ↓reduceIte, p10, p1, p2, p4, p9, p3, A4 hwn, c1, A0, EB C, c2, DD C]
   refine Ad (by decide) x.length (by omega) (I := fun j F h => A3.tmp F 10 = .i .i64 k ∧ A3.tmp F 1 = lI x ∧ A3.tmp F 2 = lI f ∧ A3.tmp F 4 = .fp (eT t) 0 ∧ A3.tmp F 3 = .i .i64 w' ∧ A3.tmp F 11 = .p 0 0 0 0 ∧ h = [some ⟨BJ, 0, 0, false, [eN (t.at w')]⟩] ∧ A3.tmp F 9 = vW (CX (fun n => decide ((t.at n.toNat).kind = 4) && E8 (t.at n.toNat) && decide ((t.at n.toNat).thread = (t.at w').thread) && Aw t n w') s1 (x.take j))) ?_ ?_ ?_ 0 _ _ (Nat.zero_le _) ?_ ?_
   ·rintro j F h hj q12 ⟨q10, q1, q2, q4, q3, q11, rfl, q9⟩
    simp only [Cp, go_sem, ↓reduceIte, q12, q10, q1, q2, q4, q3, q11, q9]
   ·rintro j F h hj q12 ⟨q10, q1, q2, q4, q3, q11, rfl, q9⟩
    obtain ⟨m, hm1, hm⟩ := Aa (hx _ (Ap (d := 0) hj))
    have hb := fun (Q : VV → Prop) => Gw C t ht.up (m : Int) (w' : Int) (Q := Q)
    cases d1 : decide ((t.at m).kind = 4) with
    | false =>
     rw [← Pi hj (by rw [hm1, Int.toNat_natCast, d1]; rfl)]
     simp only [Cp, go_sem, ↓reduceIte, q12, q10, q1, q2, q4, q3, q11, q9, Aq hj, hj, hm1, A4 hm, d1, A0]
    | true =>
    cases d2 : E8 (t.at m) with
    | false =>
     rw [← Pi hj (by rw [hm1, Int.toNat_natCast, d2]; simp)]
     simp only [Cp, go_sem, ↓reduceIte, q12, q10, q1, q2, q4, q3, q11, q9, Aq hj, hj, hm1, A4 hm, d1, d2, EB C, A0]
    | true =>
    cases d3 : decide ((t.at m).thread = (t.at w').thread) with
    | false =>
     rw [← Pi hj (by rw [hm1, Int.toNat_natCast, d3]; simp)]
     simp only [Cp, go_sem, ↓reduceIte, q12, q10, q1, q2, q4, q3, q11, q9, Aq hj, hj, hm1, A4 hm, d1, d2, d3, EB C, A0]
    | true =>
    cases d4 : Aw t m w' with
    | false =>
     rw [← Pi hj (by rw [hm1, d4]; simp)]
     simp only [Cp, go_sem, ↓reduceIte, q12, q10, q1, q2, q4, q3, q11, q9, Aq hj, hj, hm1, A4 hm, d1, d2, d3, d4, hb, EB C, A0]
    | true =>
     rw [← A9Z hj (by rw [hm1, Int.toNat_natCast, d1, d2, d3, d4]; rfl), hm1]
     simp only [Cp, go_sem, ↓reduceIte, q12, q10, q1, q2, q4, q3, q11, q9, Aq hj, hj, hm1, A4 hm, d1, d2, d3, d4, hb, EB C, DD C, A0]
   ·rintro F h ⟨q10, q1, q2, q4, q3, q11, rfl, q9⟩
    rw [List.take_length, hown] at q9
    have hah : Yp t x f w' = if (t.at w').rmw = true ∧ Be x (t.at w').up = true then Jx x f (t.at w').up else -1 := by rw [Yp, Int.toNat_natCast]
    have hoff1 : HL t (-1) = true := rfl
    cases d1 : (t.at w').rmw with
    | false =>
     rw [hah, d1, if_neg (by simp), Nx _ _ _ _ _ hoff1] at hs
     simp only [BitVec.or_zero] at hs
     simp only [Cp, go_sem, ↓reduceIte, q10, q1, q2, q4, q3, q11, q9, d1, hs]
    | true =>
    have hwl2 := BT x (t.at w').up
    cases d2 : Be x (t.at w').up with
    | false =>
     rw [d2] at hwl2
     rw [hah, d2, if_neg (by simp), Nx _ _ _ _ _ hoff1] at hs
     simp only [BitVec.or_zero] at hs
     simp only [Cp, go_sem, ↓reduceIte, q10, q1, q2, q4, q3, q11, q9, d1, hs, A9 C x (by omega), hwl2]
    | true =>
     rw [d2] at hwl2
     have hahm := A2p ht hF hw
     rw [hah, d1, d2, if_pos ⟨rfl, rfl⟩] at hs hahm
     obtain ⟨i, hi1, hi2, _, _⟩ := Ey d2
     have hif : i < f.length := by rw [← hF.len]; exact hi2
     have hon : Jx x f (t.at w').up = f.getD i 0 := by rw [Jx, if_pos d2, hi1, Int.toNat_natCast]
     rw [hon] at hs hahm
     rw [hi1] at hwl2
     have hup := (hF.read (t.at w').up (Ai.1 d2) (by
      have hl : t.locs.length ≤ w' := by
       rcases Nat.lt_or_ge w' t.locs.length with h1 | h1
       ·have := (ht.init w' h1).thr; omega
       ·exact h1
      exact ((ht.good w' hl hwn).rmw d1).2)).1
     rw [hon] at hup
     obtain ⟨v, hv1, hvn⟩ := Aa (hx _ hup)
     rw [hv1] at hs hup
     simp only [Cp, go_sem, ↓reduceIte, q10, q1, q2, q4, q3, q11, q9, d1, A9 C x (by omega), hi1, hwl2, Aq hif, hv1]
     exact ⟨_, rfl, v, rfl, hup, by omega, hs⟩
   ·simp only [Cp, go_sem, ↓reduceIte]
   ·simp only [Cp, go_sem, ↓reduceIte, p10, p1, p2, p4, p3, p9, hs1]
    rfl)
 ·rintro F h ⟨p1, p2, p4, rfl, s, w, p9, p3, hw, hkl, hs⟩
  rw [Nat.sub_self, JD] at hs
  simp only [BitVec.or_zero] at hs
  simp only [Cp, go_sem, ↓reduceIte, p1, p2, p4, p9, p3, hs]
 ·simp only [Cp, go_sem, ↓reduceIte]
 ·simp only [Cp, go_sem, ↓reduceIte]
  exact ⟨0#64, rfl, w0', rfl, hw0, by rw [AN]; simp⟩
end
end Go.AM

namespace Go.AM
open Go Go.Proofs
theorem A4l {n : Nat} {p : Nat → Nat → Bool} : (AB n p).take n = AB n p := List.take_of_length_le (by rw [BG]; omega)
theorem A9e {t : A5} {x : List Int} {r m : Nat} (hm : (m : Int) ∈ x) : EF t x r m = (J3 (t.at m) && (decide (m = r) || (decide ((t.at m).kind = 4) && Aw t r m))) := by
 rw [EF, Ai.2 hm]
 have e : decide ((m : Int) = (r : Int)) = decide (m = r) := decide_eq_decide.2 ⟨fun h => by omega, fun h => by omega⟩
 rw [e]
 cases decide (m = r) <;> cases J3 (t.at m) <;> cases decide ((t.at m).kind = 4) <;> cases Aw t r m <;> rfl
theorem A4s {t : A5} (ht : Aj t) : 0 < t.nodes.length := by
 obtain ⟨s, h0, he, hs⟩ := ht.thr
 have h1 := ht.r1
 obtain ⟨_, n, hB⟩ := hs 0 (by omega)
 cases n with
 | zero => exact absurd hB (by simp [JP])
 | succ n => have := hB.1.1; omega
section
variable {V : At} (C : AS V) {Q : VV → VH → Prop}
include C
set_option maxHeartbeats 16000000 in
theorem XX (t : A5) (ht : Aj t) (x f : List Int) (hl : x.length ≤ 1000) (hlf : f.length ≤ 1000) (hc : Cv t x f = true) (b0 : Nat) :
    Yq V A1O [vT t, lI x, lI f] b0 Q ↔ Q (.sl b0 0 0 t.nodes.length) [some ⟨Bj, 1, 0, false, (AB t.nodes.length (swB t x f)).map eW⟩] := by
  refine LP ?_
  rw [Lj C.c_z78.2]
  have h64 := ht.n64
  have hF := GG hc
  have hx := hF.node
  have hfr := fun (Q : VV → Prop) => Mt C t ht x f hl hlf (Q := Q)
  have b1 : t.nodes.length * 8 ≤ A6 := by unfold A6; omega
  simp only [A50, CZ, go_sem, ↓reduceIte, hfr, hc, b1, Int.le_refl]
  refine Ad (by decide) x.length (by omega) (I := fun i F h => A3.tmp F 1 = lI x ∧ A3.tmp F 2 = lI f ∧ A3.tmp F 3 = .fp (eT t) 0 ∧ A3.tmp F 7 = .sl 0 0 0 t.nodes.length ∧ h = [some ⟨Bj, 1, 0, false, (AB t.nodes.length (P5 t x f (x.take i))).map eW⟩]) ?_ ?_ ?_ 0 _ _ (Nat.zero_le _) ?_ ?_
  · rintro i F h hi p8 ⟨p1, p2, p3, p7, rfl⟩
    simp only [CZ, go_sem, ↓reduceIte, p8, p1, p2, p3, p7]
  · rintro i F h hi p8 ⟨p1, p2, p3, p7, rfl⟩
    have hif : i < f.length := by rw [← hF.len]; exact hi
    have hat := hF.at_ i hi
    have hrx0 : x.getD i 0 ∈ x := Ap hi
    obtain ⟨r, hr1, hr⟩ := Aa (hx _ hrx0)
    have hrx : (r : Int) ∈ x := by rw [← hr1]; exact hrx0
    rw [hr1] at hat
    have hnext : ∀ a b, P5 t x f (x.take (i + 1)) a b = (P5 t x f (x.take i) a b || (JL t x f r && BR (AN t x f (Jx x f r)) (a : Int) && EF t x r b)) := fun a b => by rw [Xl hi, hr1]
    have same : JL t x f r = false → AB t.nodes.length (P5 t x f (x.take i)) = AB t.nodes.length (P5 t x f (x.take (i + 1))) := fun e => B0 fun a b _ _ => by rw [hnext, e]; simp
    have hsaw : JL t x f r = (decide ((t.at r).kind = 2) && !decide ((t.at (Jx x f r).toNat).thread = (t.at r).thread)) := by rw [JL, Int.toNat_natCast]
    cases ck : decide ((t.at r).kind = 2) with
    | false =>
      have hs := same (by rw [hsaw, ck]; rfl)
      simp only [CZ, go_sem, ↓reduceIte, p8, p1, p2, p3, p7, Aq hi, hi, hr1, A4 hr, ck, A0, hs]
    | true =>
    obtain ⟨o1, o2, o3⟩ := hF.read _ hrx (by rw [Int.toNat_natCast]; exact of_decide_eq_true ck)
    obtain ⟨w, hw1, hw⟩ := Aa (hx _ o1)
    rw [hw1] at o1 o2
    rw [Int.toNat_natCast] at o2
    have hfw : f.getD i 0 = (w : Int) := by rw [← hat, hw1]
    cases c2 : decide ((t.at w).thread = (t.at r).thread) with
    | true =>
      have hs := same (by rw [hsaw, hw1, Int.toNat_natCast, c2]; simp)
      simp only [CZ, go_sem, ↓reduceIte, p8, p1, p2, p3, p7, Aq hi, Aq hif, hi, hif, hr1, hfw, A4 hr, A4 hw, ck, c2, A0, hs]
    | false =>
    have hs : JL t x f r = true := by rw [hsaw, hw1, Int.toNat_natCast, c2, ck]; rfl
    have hh := fun (Q : VV → Prop) => Rw C t ht x f hl hlf hc o1 o2 (Q := Q)
    simp only [CZ, go_sem, ↓reduceIte, p8, p1, p2, p3, p7, Aq hi, Aq hif, hi, hif, hr1, hfw, A4 hr, A4 hw, ck, c2, A0, hh, Xj C]
    have hlh := Dj (AN t x f w)
    let M := fun (k : Nat) (a b : Nat) => P5 t x f (x.take i) a b || (BR (AN t x f w) (a : Int) && Be (x.take k) (b : Int) && EF t x r b)
    refine Ad (by decide) x.length (by omega) (I := fun k F h => A3.tmp F 8 = .i .i64 i ∧ A3.tmp F 1 = lI x ∧ A3.tmp F 2 = lI f ∧ A3.tmp F 3 = .fp (eT t) 0 ∧ A3.tmp F 7 = .sl 0 0 0 t.nodes.length ∧ A3.tmp F 9 = lI (Az (AN t x f w)) ∧ h = [some ⟨Bj, 1, 0, false, (AB t.nodes.length (M k)).map eW⟩]) ?_ ?_ ?_ 0 _ _ (Nat.zero_le _) ?_ ?_
    · rintro k F h hk q10 ⟨q8, q1, q2, q3, q7, q9, rfl⟩
      simp only [CZ, go_sem, ↓reduceIte, q10, q8, q1, q2, q3, q7, q9]
    · rintro k F h hk q10 ⟨q8, q1, q2, q3, q7, q9, rfl⟩
      have hmx0 : x.getD k 0 ∈ x := Ap hk
      obtain ⟨m, hm1, hm⟩ := Aa (hx _ hmx0)
      have hmx : (m : Int) ∈ x := by rw [← hm1]; exact hmx0
      have hend := A9e (t := t) (r := r) hmx
      have hb := fun (Q : VV → Prop) => Gw C t ht.up (r : Int) (m : Int) (Q := Q)
      have htk : ∀ b : Nat, Be (x.take (k + 1)) (b : Int) = (Be (x.take k) (b : Int) || decide (b = m)) := fun b => by
        rw [List.take_succ_eq_append_getElem hk]
        rw [List.getD_eq_getElem?_getD, List.getElem?_eq_getElem hk, Option.getD_some] at hm1
        rw [hm1, Bool.eq_iff_iff, Ai, List.mem_append, Bool.or_eq_true, Ai, decide_eq_true_eq, List.mem_singleton]
        exact ⟨fun h => h.imp id fun h => by omega, fun h => h.imp id fun h => by omega⟩
      have hskip : EF t x r m = false → AB t.nodes.length (M k) = AB t.nodes.length (M (k + 1)) := fun e => B0 fun a b _ _ => by
        simp only [M]
        rw [htk]
        by_cases c : b = m
        · subst c; rw [e]; simp
        · simp [c]
      cases d1 : J3 (t.at m) with
      | false =>
        have hsk := hskip (by rw [hend, d1]; rfl)
        simp only [CZ, go_sem, ↓reduceIte, q10, q8, q1, q2, q3, q7, q9, Aq hk, hk, hm1, A4 hm, K8 C, d1, A0, hsk]
      | true =>
      have hall : EF t x r m = true → AB t.nodes.length (fun a b => M k a b || (BR (AN t x f w) (a : Int) && decide (b = m))) = AB t.nodes.length (M (k + 1)) := fun e => B0 fun a b _ _ => by
        simp only [M]
        rw [htk]
        by_cases c : b = m
        · subst c; rw [e]; cases P5 t x f (x.take i) a b <;> cases BR (AN t x f w) (a : Int) <;> cases Be (x.take k) (b : Int) <;> simp
        · simp [c]
      have d2e : decide ((m : Int) = (r : Int)) = decide (m = r) := decide_eq_decide.2 ⟨fun h => by omega, fun h => by omega⟩
      cases d2 : decide (m = r) <;> cases d3 : decide ((t.at m).kind = 4) <;> cases d4 : Aw t r m <;> rw [d1, d2, d3, d4] at hend <;> (first
        | (have hsk := hskip (by rw [hend]; rfl)
           simp only [CZ, go_sem, ↓reduceIte, q10, q8, q1, q2, q3, q7, q9, Aq hk, Aq hi, hk, hi, hr1, hm1, A4 hm, K8 C, d1, d2e, d2, d3, hb, d4, A0, hsk])
        | (have hal := hall (by rw [hend]; rfl)
           simp only [CZ, go_sem, ↓reduceIte, q10, q8, q1, q2, q3, q7, q9, Aq hk, Aq hi, hk, hi, hr1, hm1, A4 hm, K8 C, d1, d2e, d2, d3, hb, d4, A0]
           refine Ad (by decide) (Az (AN t x f w)).length (by omega) (I := fun j F h => A3.tmp F 10 = .i .i64 k ∧ A3.tmp F 8 = .i .i64 i ∧ A3.tmp F 1 = lI x ∧ A3.tmp F 2 = lI f ∧ A3.tmp F 3 = .fp (eT t) 0 ∧ A3.tmp F 7 = .sl 0 0 0 t.nodes.length ∧ A3.tmp F 9 = lI (Az (AN t x f w)) ∧ h = [some ⟨Bj, 1, 0, false, (AB t.nodes.length fun a b => M k a b || (Be ((Az (AN t x f w)).take j) (a : Int) && decide (b = m))).map eW⟩, some ⟨BJ, 0, 0, false, [eN (t.at m)]⟩]) ?_ ?_ ?_ 0 _ _ (Nat.zero_le _) ?_ ?_
           · rintro j F h hj u12 ⟨u10, u8, u1, u2, u3, u7, u9, rfl⟩
             simp only [CZ, go_sem, ↓reduceIte, u12, u10, u8, u1, u2, u3, u7, u9]
           · rintro j F h hj u12 ⟨u10, u8, u1, u2, u3, u7, u9, rfl⟩
             have hmem := (Dg (s := AN t x f w)).1 (Ap (d := 0) hj)
             obtain ⟨a0, _⟩ := Gf hmem
             obtain ⟨a, ha1⟩ := Int.eq_ofNat_of_zero_le a0
             have ha : a < t.nodes.length := R0 ht hF o1 (by rw [ha1, AT] at hmem; exact hmem)
             have hset := S8 ha hm h64 (fun a b => M k a b || (Be ((Az (AN t x f w)).take j) (a : Int) && decide (b = m)))
             have hM : AB t.nodes.length (fun i' b => (M k i' b || (Be ((Az (AN t x f w)).take j) (i' : Int) && decide (b = m))) || (decide (i' = a) && decide (b = m))) = AB t.nodes.length (fun a b => M k a b || (Be ((Az (AN t x f w)).take (j + 1)) (a : Int) && decide (b = m))) := B0 fun i' b _ _ => by
               rw [List.take_succ_eq_append_getElem hj]
               have e : Be ((Az (AN t x f w)).take j ++ [(Az (AN t x f w))[j]]) (i' : Int) = (Be ((Az (AN t x f w)).take j) (i' : Int) || decide (i' = a)) := by
                 rw [List.getD_eq_getElem?_getD, List.getElem?_eq_getElem hj, Option.getD_some] at ha1
                 rw [ha1, Bool.eq_iff_iff, Ai, List.mem_append, Bool.or_eq_true, Ai, decide_eq_true_eq, List.mem_singleton]
                 exact ⟨fun h => h.imp id fun h => by omega, fun h => h.imp id fun h => by omega⟩
               rw [e]
               cases M k i' b <;> cases Be ((Az (AN t x f w)).take j) (i' : Int) <;> cases decide (i' = a) <;> cases decide (b = m) <;> rfl
             rw [hM] at hset
             simp only [CZ, go_sem, ↓reduceIte, u12, u10, u8, u1, u2, u3, u7, u9, Aq hj, Aq hk, hj, hk, ha1, hm1, E0 ha, DD C, A0, hset, BG, ha]
           · rintro F h ⟨u10, u8, u1, u2, u3, u7, u9, rfl⟩
             have hfinM : AB t.nodes.length (fun a b => M k a b || (Be (Az (AN t x f w)) (a : Int) && decide (b = m))) = AB t.nodes.length (M (k + 1)) := by
               rw [← hal]
               exact B0 fun a b _ _ => by
                 have e : Be (Az (AN t x f w)) (a : Int) = BR (AN t x f w) (a : Int) := by rw [Bool.eq_iff_iff, Ai, Dg]
                 rw [e]
             simp only [CZ, go_sem, ↓reduceIte, u10, u8, u1, u2, u3, u7, u9, List.take_length, hfinM]
           · simp only [CZ, go_sem, ↓reduceIte]
           · simp only [CZ, go_sem, ↓reduceIte, q10, q8, q1, q2, q3, q7, q9]
             have h0 : AB t.nodes.length (fun a b => M k a b || (Be ((Az (AN t x f w)).take 0) (a : Int) && decide (b = m))) = AB t.nodes.length (M k) := B0 fun a b _ _ => by simp only [List.take_zero, Be, List.any_nil, Bool.false_and, Bool.or_false]
             rw [List.take_zero] at h0
             rw [h0]))
    · rintro F h ⟨q8, q1, q2, q3, q7, q9, rfl⟩
      have hM : AB t.nodes.length (M x.length) = AB t.nodes.length (P5 t x f (x.take (i + 1))) := B0 fun a b _ hb => by
        simp only [M]
        rw [List.take_length, hnext, hs, hw1, Bool.true_and]
        cases e1 : EF t x r b with
        | false => simp
        | true =>
          have : Be x (b : Int) = true := by
            simp only [EF, Bool.or_eq_true, Bool.and_eq_true, decide_eq_true_eq] at e1
            rcases e1 with h | h
            · rw [h.1]; exact Ai.2 hrx
            · exact h.1.1.1
          rw [this]; simp
      simp only [CZ, go_sem, ↓reduceIte, q8, q1, q2, q3, q7, q9, hM]
    · simp only [CZ, go_sem, ↓reduceIte]
    · simp only [CZ, go_sem, ↓reduceIte, p8, p1, p2, p3, p7]
      have hM : AB t.nodes.length (M 0) = AB t.nodes.length (P5 t x f (x.take i)) := B0 fun a b _ _ => by simp only [M, List.take_zero, Be, List.any_nil, Bool.and_false, Bool.false_and, Bool.or_false]
      rw [hM]
  · rintro F h ⟨p1, p2, p3, p7, rfl⟩
    have e : AB t.nodes.length (P5 t x f x) = AB t.nodes.length (swB t x f) := rfl
    simp only [CZ, go_sem, ↓reduceIte, p1, p2, p3, p7, BG, Bm, List.take_length, e]
    simp
  · simp only [CZ, go_sem, ↓reduceIte]
  · simp only [CZ, go_sem, ↓reduceIte]
    rw [← SC]; rfl
set_option maxHeartbeats 8000000 in
theorem A0M (t : A5) (ht : Aj t) (x f : List Int) (hl : x.length ≤ 1000) (hlf : f.length ≤ 1000) (hc : Cv t x f = true) {Q : VV → Prop} : VP V A3n [vT t, lI x, lI f] Q ↔ Q (lW (hbF t x f)) := by
 refine Ab ?_
 rw [A8 C.c_z30.1 C.c_z30.2]
 have h64 := ht.n64
 rw [hbF, hc]
 have hF := GG hc
 have hx := hF.node
 have hsw := fun (b : Nat) (Q : VV → VH → Prop) => XX C t ht x f hl hlf hc b (Q := Q)
 have hne := A5z (i := 0) (v := 0) (o := 0) (A4s ht)
 simp only [A5S, Gi, go_sem, ↓reduceIte, hsw, hne]
 let M := fun (i k : Nat) (a b : Nat) => swB t x f a b || ((Be (x.take i) (a : Int) && Be x (b : Int) && Aw t a b) || (decide ((a : Int) = x.getD i 0) && Be (x.take k) (b : Int) && Aw t a b))
 refine Ad (by decide) x.length (by omega) (I := fun i F h => A3.tmp F 1 = lI x ∧ A3.tmp F 3 = .fp (eT t) 0 ∧ A3.tmp F 7 = .sl 0 0 0 t.nodes.length ∧ h = [some ⟨Bj, 1, 0, false, (AB t.nodes.length (M i 0)).map eW⟩]) ?_ ?_ ?_ 0 _ _ (Nat.zero_le _) ?_ ?_
 ·rintro i F h hi p8 ⟨p1, p3, p7, rfl⟩
  simp only [Gi, go_sem, ↓reduceIte, p8, p1, p3, p7]
 ·rintro i F h hi p8 ⟨p1, p3, p7, rfl⟩
  obtain ⟨a, ha1, ha⟩ := Aa (hx _ (Ap (d := 0) hi))
  simp only [Gi, go_sem, ↓reduceIte, p8, p1, p3, p7, A0]
  refine Ad (by decide) x.length (by omega) (I := fun k F h => A3.tmp F 8 = .i .i64 i ∧ A3.tmp F 1 = lI x ∧ A3.tmp F 3 = .fp (eT t) 0 ∧ A3.tmp F 7 = .sl 0 0 0 t.nodes.length ∧ h = [some ⟨Bj, 1, 0, false, (AB t.nodes.length (M i k)).map eW⟩]) ?_ ?_ ?_ 0 _ _ (Nat.zero_le _) ?_ ?_
  ·rintro k F h hk q9 ⟨q8, q1, q3, q7, rfl⟩
   simp only [Gi, go_sem, ↓reduceIte, q9, q8, q1, q3, q7]
  ·rintro k F h hk q9 ⟨q8, q1, q3, q7, rfl⟩
   obtain ⟨m, hm1, hm⟩ := Aa (hx _ (Ap (d := 0) hk))
   have hb := fun (Q : VV → Prop) => Gw C t ht.up (a : Int) (m : Int) (Q := Q)
   have htk : ∀ b : Nat, Be (x.take (k + 1)) (b : Int) = (Be (x.take k) (b : Int) || decide (b = m)) := fun b => by
    rw [List.take_succ_eq_append_getElem hk]
    rw [List.getD_eq_getElem?_getD, List.getElem?_eq_getElem hk, Option.getD_some] at hm1
    rw [hm1, Bool.eq_iff_iff, Ai, List.mem_append, Bool.or_eq_true, Ai, decide_eq_true_eq, List.mem_singleton]
    exact ⟨fun h => h.imp id fun h => by omega, fun h => h.imp id fun h => by omega⟩
   have hda : ∀ i' : Nat, decide ((i' : Int) = x.getD i 0) = decide (i' = a) := fun i' => by rw [ha1]; exact decide_eq_decide.2 ⟨fun h => by omega, fun h => by omega⟩
   cases d1 : Aw t a m with
   | false =>
    have hsk : AB t.nodes.length (M i k) = AB t.nodes.length (M i (k + 1)) := B0 fun i' b _ _ => by
     simp only [M]
     rw [htk, hda]
     by_cases c : i' = a
     ·subst c
      by_cases c' : b = m
      ·subst c'; rw [d1]; simp
      ·simp [c']
     ·simp [c]
    simp only [Gi, go_sem, ↓reduceIte, q9, q8, q1, q3, q7, Aq hi, Aq hk, hi, hk, ha1, hm1, hb, d1, A0, hsk]
   | true =>
    have hset := S8 ha hm h64 (M i k)
    have hal : AB t.nodes.length (fun i' b => M i k i' b || (decide (i' = a) && decide (b = m))) = AB t.nodes.length (M i (k + 1)) := B0 fun i' b _ _ => by
     simp only [M]
     rw [htk, hda]
     by_cases c : i' = a
     ·subst c
      by_cases c' : b = m
      ·subst c'; rw [d1]; simp
      ·simp [c']
     ·simp [c]
    rw [hal] at hset
    simp only [Gi, go_sem, ↓reduceIte, q9, q8, q1, q3, q7, Aq hi, Aq hk, hi, hk, ha1, hm1, hb, d1, A0, E0 ha, DD C, hset, BG, ha]
  ·rintro F h ⟨q8, q1, q3, q7, rfl⟩
   have hM : AB t.nodes.length (M i x.length) = AB t.nodes.length (M (i + 1) 0) := B0 fun i' b _ _ => by
    simp only [M]
    rw [List.take_length, List.take_zero]
    have e : Be (x.take (i + 1)) (i' : Int) = (Be (x.take i) (i' : Int) || decide ((i' : Int) = x.getD i 0)) := by
     rw [List.take_succ_eq_append_getElem hi, List.getD_eq_getElem?_getD, List.getElem?_eq_getElem hi, Option.getD_some, Bool.eq_iff_iff, Ai, List.mem_append, Bool.or_eq_true, Ai, decide_eq_true_eq, List.mem_singleton]
    rw [e]
    show _ = (_ || (_ || (_ && false && _)))
    cases swB t x f i' b <;> cases Be (x.take i) (i' : Int) <;> cases decide ((i' : Int) = x.getD i 0) <;> cases Be x (b : Int) <;> cases Aw t i' b <;> simp
   simp only [Gi, go_sem, ↓reduceIte, q8, q1, q3, q7, hM]
  ·simp only [Gi, go_sem, ↓reduceIte]
  ·simp only [Gi, go_sem, ↓reduceIte, p8, p1, p3, p7]
 ·rintro F h ⟨p1, p3, p7, rfl⟩
  have hM : AB t.nodes.length (M x.length 0) = AB t.nodes.length (Ns t x f) := B0 fun a b _ _ => by
   simp only [M]
   rw [List.take_length, List.take_zero]
   show (_ || (_ || (_ && false && _))) = _
   rw [Ns]
   cases swB t x f a b <;> cases Be x (a : Int) <;> cases Be x (b : Int) <;> cases Aw t a b <;> simp
  have hpl := fun (Q : VV → Prop) => X9 C (AB t.nodes.length (Ns t x f)) (by rw [BG]; omega) (Q := Q)
  simp only [Gi, go_sem, ↓reduceIte, p1, p3, p7, hM, BG, A4l, hpl]
  try rfl
 ·simp only [Gi, go_sem, ↓reduceIte]
 ·simp only [Gi, go_sem, ↓reduceIte]
  have h0 : AB t.nodes.length (M 0 0) = AB t.nodes.length (swB t x f) := B0 fun a b _ _ => by
   simp only [M]
   rw [List.take_zero]
   show (_ || ((false && _ && _) || (_ && false && _))) = _
   simp
  rw [h0]
end
end Go.AM

namespace Go.AM
open Go Go.Proofs
abbrev X5 (n : Ay) (p : Int) : List VV := [.i .i64 n.thread, .i .i64 n.up, .i .i64 n.kind, .i .i64 n.loc, .i .i64 n.mode, .i .i64 n.val, .b n.rmw, .b n.fin, lI n.regs, .i .i64 p]
section
variable {V : At} (C : AS V) {Q : VV → Prop}
include C
theorem Rz (n : Ay) (p : Int) : VP V A29 [.ag (X5 n p)] Q ↔ Q (.b (decide (n.kind = 2) || decide (n.kind = 3))) := by
 refine Ab ?_
 rw [A8 C.c_z31.1 C.c_z31.2]
 cases c : decide (n.kind = 2) <;> simp only [A5N, A32, go_sem, ↓reduceIte, c, Bool.true_or, Bool.false_or]
theorem Vv (a b : Ay) (p q : Int) : VP V A2w [.ag (X5 a p), .ag (X5 b q)] Q ↔ Q (.b (decide (p < q))) := by
 refine Ab ?_
 rw [A8 C.c_z32.1 C.c_z32.2]
 simp only [A8a, A21, go_sem, ↓reduceIte]
theorem Y3 (a b : Ay) (p q : Int) : VP V A3q [.ag (X5 a p), .ag (X5 b q)] Q ↔ Q (.b (decide (p ≤ q))) := by
 refine Ab ?_
 rw [A8 C.c_z33.1 C.c_z33.2]
 simp only [A68, A3x, go_sem, ↓reduceIte]
theorem K7 (a b : Ay) (pa pb : Int) : VP V A9c [vN a, vN b, .i .i64 pa, .i .i64 pb] Q ↔ Q (.b (E4 a b pa pb)) := by
 refine Ab ?_
 rw [A8 C.c_z7.1 C.c_z7.2]
 have a1 := fun (n : Ay) (p : Int) (Q : VV → Prop) => Rz C n p (Q := Q)
 have hpf : E4 a b pa pb = ((!(decide (a.kind = 2) || decide (a.kind = 3)) || !(decide (b.kind = 2) || decide (b.kind = 3)) || !decide (a.loc = b.loc)) || (bif decide (b.kind = 2) then decide (pa ≤ pb) else decide (pa < pb))) := by
  unfold E4
  by_cases c : b.kind = 2 <;> simp [c]
 rw [hpf]
 cases c1 : (decide (a.kind = 2) || decide (a.kind = 3)) with
 | false =>
  simp only [Zo, Wj, go_sem, ↓reduceIte, a1, c1, Bool.not_false, Bool.true_or]
 | true =>
 cases c2 : (decide (b.kind = 2) || decide (b.kind = 3)) with
 | false =>
  simp only [Zo, Wj, go_sem, ↓reduceIte, a1, c1, c2, Bool.not_false, Bool.true_or, Bool.not_true, Bool.false_or]
 | true =>
 cases c3 : decide (a.loc = b.loc) with
 | false =>
  simp only [Zo, Wj, go_sem, ↓reduceIte, a1, c1, c2, c3, Bool.not_false, Bool.true_or, Bool.not_true, Bool.false_or]
 | true =>
 cases c4 : decide (b.kind = 2) with
 | false =>
  have c5 : decide (b.kind = 3) = true := by rw [c4] at c2; simpa using c2
  simp only [Zo, Wj, go_sem, ↓reduceIte, a1, c1, c2, c3, c4, c5, Vv C, Bool.not_true, Bool.false_or, cond_false]
 | true =>
  simp only [Zo, Wj, go_sem, ↓reduceIte, a1, c1, c2, c3, c4, Y3 C, Bool.not_true, Bool.false_or, cond_true]
theorem RJ (t : A5) (s : Ac) (hs : Ja s) {n : Nat} (hn : n < t.nodes.length) : VP V Xh [.i .i64 n, .fp (eT t) 0, .fp (Qa s) 0] Q ↔ Q (.i .i64 (plN t s n)) := by
 refine Ab ?_
 rw [A8 C.c_z28.1 C.c_z28.2]
 unfold plN
 rw [Int.toNat_natCast]
 cases c : decide ((t.at n).kind = 2) with
 | false =>
  rw [if_neg (of_decide_eq_false c)]
  simp only [A2j, We, go_sem, ↓reduceIte, A4 hn, c, L8 C s hs]
 | true =>
  rw [if_pos (of_decide_eq_true c)]
  simp only [A2j, We, go_sem, ↓reduceIte, A4 hn, c, A0X C s hs, L8 C s hs]
set_option maxHeartbeats 4000000 in
theorem UD (t : A5) (ht : Aj t) (r : BY) (hr : ∀ x ∈ CM r, ∃ a b : Nat, a < t.nodes.length ∧ b < t.nodes.length ∧ x = ((a : Int), (b : Int))) (hl : (CM r).length ≤ 5000) {g : Nat} {c : List VV} (hc : Fz c) (pl : Int → Int)
  (hg : ∀ (n : Nat), n < t.nodes.length → ∀ Q : VV → Prop, VP V g ([VV.i .i64 n] ++ c) Q ↔ Q (.i .i64 (pl n))) :
  VP V A2o [vT t, lW r, .f g [] c] Q ↔ Q (.b ((CM r).all fun x => E4 (t.at x.1.toNat) (t.at x.2.toNat) (pl x.1) (pl x.2))) := by
 refine Ab ?_
 rw [A8 C.c_z26.1 C.c_z26.2]
 have hbel : Ct 0 c = true := HC (hc [] 5) (fun v e => A2a e)
 have hfz8 : ∀ h, AW (frz h 8) c = some (c, []) := fun h => hc h 5
 have hfz : ∀ h, AW (frz h 7) c = some (c, []) := fun h => hc h 4
 simp only [A5i, L4, go_sem, ↓reduceIte, Xf C, hfz]
 refine Am (by decide) (CM r).length (by omega) (I := fun k F h => A3.tmp F 2 = .f g [] c ∧ A3.tmp F 3 = .fp (eT t) 0 ∧ A3.tmp F 10 = lP (CM r) ∧ h = [] ∧ ∀ x ∈ (CM r).take k, E4 (t.at x.1.toNat) (t.at x.2.toNat) (pl x.1) (pl x.2) = true) ?_ ?_ 0 _ _ (by omega) ?_ ?_ ?_
 ·rintro k F h hk p12 p11 ⟨p2, p3, p10, rfl, pr⟩
  obtain ⟨a, b, ha, hb, e⟩ := hr _ (List.getElem_mem hk)
  have C1 : (CM r)[k]? = some ((a : Int), (b : Int)) := by rw [List.getElem?_eq_getElem hk, e]
  have ga := fun (Q : VV → Prop) => hg a ha Q
  have gb := fun (Q : VV → Prop) => hg b hb Q
  simp only [List.cons_append, List.nil_append] at ga gb
  cases c1 : E4 (t.at a) (t.at b) (pl a) (pl b) with
  | true =>
   simp only [L4, go_sem, ↓reduceIte, p12, p11, p2, p3, p10, C1, hk, A4 ha, A4 hb, ga, gb, K7 C, c1, A0, hfz, hfz8, hbel]
   intro x hx
   rw [List.take_succ_eq_append_getElem hk] at hx
   rcases List.mem_append.1 hx with hx | hx
   ·exact pr x hx
   ·rw [List.mem_singleton.1 hx, e]; exact c1
  | false =>
   have e : ((CM r).all fun x => E4 (t.at x.1.toNat) (t.at x.2.toNat) (pl x.1) (pl x.2)) = false := by
    rw [List.all_eq_false]
    exact ⟨_, List.getElem_mem hk, by rw [e, Int.toNat_natCast, Int.toNat_natCast, c1]; simp⟩
   simp only [L4, go_sem, ↓reduceIte, p12, p11, p2, p3, p10, C1, hk, A4 ha, A4 hb, ga, gb, K7 C, c1, A0, e, hfz, hfz8]
 ·rintro F h ⟨p2, p3, p10, rfl, pr⟩
  rw [List.take_length] at pr
  have e : ((CM r).all fun x => E4 (t.at x.1.toNat) (t.at x.2.toNat) (pl x.1) (pl x.2)) = true := by rw [List.all_eq_true]; exact pr
  simp only [L4, go_sem, ↓reduceIte, p2, p3, p10, e]
 ·simp only [L4, go_sem, ↓reduceIte]
 ·simp only [L4, go_sem, ↓reduceIte]
 ·simp only [L4, go_sem, ↓reduceIte]
theorem Mj (t : A5) (ht : Aj t) (s : Ac) (hs : Ja s) : VP V A8W [vT t, JO s] Q ↔ Q (.b (A7r t s)) := by
 refine Ab ?_
 rw [A8 C.c_z5.1 C.c_z5.2]
 have h64 := ht.n64
 have hmay := fun (Q : VV → Prop) => XW C t ht s hs (Q := Q)
 rw [Adb t ht s] at hmay
 unfold A7r
 cases hf : BM t s with
 | false => simp only [A9S, A6E, go_sem, ↓reduceIte, hmay, hf, Bool.false_and]
 | true =>
  have hfr := MW hf
  have hF := GG hfr
  have hhb := fun (Q : VV → Prop) => A4n C t ht s.has s.jf hs.has hs.jf (Q := Q)
  rw [hbF, if_pos hfr] at hhb
  have hpl : (CM (Wt t s.has s.jf)).length ≤ 5000 := by
   have := Sk (Wt t s.has s.jf) (Wt t s.has s.jf).length
   rw [CM]
   have hl : (Wt t s.has s.jf).length = t.nodes.length := HA h64 _
   split
   ·rw [hl] at this ⊢; omega
   ·simp
  have hin : ∀ x ∈ CM (Wt t s.has s.jf), ∃ a b : Nat, a < t.nodes.length ∧ b < t.nodes.length ∧ x = ((a : Int), (b : Int)) := fun x hx => by
   obtain ⟨a, b, ha, e, hp⟩ := (MZ h64 _ _).1 hx
   exact ⟨a, b, ha, hp.lt, e⟩
  have hpr := fun (Q : VV → Prop) => UD C t ht (Wt t s.has s.jf) hin hpl (g := Xh) (c := [.fp (eT t) 0, .fp (Qa s) 0]) (fun _ _ => rfl) (plN t s) (fun n hn Q => RJ C t s hs hn (Q := Q)) (Q := Q)
  simp only [A9S, A6E, go_sem, ↓reduceIte, hmay, hf, hhb, hpr, Bool.true_and]
  rfl
theorem Es (t : A5) (s : Ac) (hs : Ja s) {n : Nat} (hn : n < t.nodes.length) : VP V A2K [vT t, JO s, .i .i64 n] Q ↔ Q (.i .i64 (plR t s n)) := by
 refine Ab ?_
 rw [A8 C.c_z77.1 C.c_z77.2]
 unfold plR
 rw [Int.toNat_natCast]
 cases c : decide ((t.at n).kind = 3) with
 | true =>
  rw [if_pos (of_decide_eq_true c)]
  simp only [XQ, Sz, go_sem, ↓reduceIte, A4 hn, c, Lh C s hs, A0]
 | false =>
  rw [if_neg (of_decide_eq_false c)]
  cases c2 : decide ((t.at n).kind = 2) with
  | true =>
   rw [if_pos (of_decide_eq_true c2)]
   simp only [XQ, Sz, go_sem, ↓reduceIte, A4 hn, c, c2, A12 C s hs, Lh C s hs, A0]
  | false =>
   rw [if_neg (of_decide_eq_false c2)]
   simp only [XQ, Sz, go_sem, ↓reduceIte, A4 hn, c, c2, A0]
def Js (t : A5) (s : Ac) (i k : Nat) : Bool := decide (i = k) || !TB t s.has s.jf (s.has.getD i 0) (s.has.getD k 0) || E4 (t.at (s.has.getD i 0).toNat) (t.at (s.has.getD k 0).toNat) (plR t s (s.has.getD i 0)) (plR t s (s.has.getD k 0))
set_option maxHeartbeats 4000000 in
theorem Ul (t : A5) (ht : Aj t) (s : Ac) (hs : Ja s) (hn : Cw t s.has) : VP V A2Y [vT t, JO s, lW (Wt t s.has s.jf)] Q ↔ Q (.b (Yc t s)) := by
 refine Ab ?_
 rw [A8 C.c_z29.1 C.c_z29.2]
 have h64 := ht.n64
 have hl : (Wt t s.has s.jf).length = t.nodes.length := HA h64 _
 have hle := hs.has
 have hgf : Yc t s = (List.range s.has.length).all fun i => (List.range s.has.length).all fun k => Js t s i k := rfl
 rw [hgf]
 simp only [A7B, EE, go_sem, ↓reduceIte]
 refine Ad (by decide) s.has.length (by omega) (I := fun i F h => A3.tmp F 2 = lW (Wt t s.has s.jf) ∧ A3.tmp F 3 = .fp (eT t) 0 ∧ A3.tmp F 4 = .fp (Qa s) 0 ∧ h = [] ∧ ∀ j, j < i → (List.range s.has.length).all (fun k => Js t s j k) = true) ?_ ?_ ?_ 0 _ _ (Nat.zero_le _) ?_ ?_
 ·rintro i F h hi p7 ⟨p2, p3, p4, rfl, pr⟩
  simp only [EE, go_sem, ↓reduceIte, p7, p2, p3, p4]
  exact pr
 ·rintro i F h hi p7 ⟨p2, p3, p4, rfl, pr⟩
  obtain ⟨a, ha1, ha⟩ := Aa (hn _ (Ap (d := 0) hi))
  simp only [EE, go_sem, ↓reduceIte, p7, p2, p3, p4, A0]
  refine Ad (by decide) s.has.length (by omega) (I := fun k F h => A3.tmp F 7 = .i .i64 i ∧ A3.tmp F 2 = lW (Wt t s.has s.jf) ∧ A3.tmp F 3 = .fp (eT t) 0 ∧ A3.tmp F 4 = .fp (Qa s) 0 ∧ h = [] ∧ ∀ j, j < k → Js t s i j = true) ?_ ?_ ?_ 0 _ _ (Nat.zero_le _) ?_ ?_
  ·rintro k F h hk q8 ⟨q7, q2, q3, q4, rfl, qr⟩
   simp only [EE, go_sem, ↓reduceIte, q8, q7, q2, q3, q4]
   exact qr
  ·rintro k F h hk q8 ⟨q7, q2, q3, q4, rfl, qr⟩
   obtain ⟨b, hb1, hb⟩ := Aa (hn _ (Ap (d := 0) hk))
   have hgo : Js t s i k = true → ∀ j, j < k + 1 → Js t s i j = true := fun h j hj => by
    rcases Nat.lt_or_ge j k with c | c
    ·exact qr j c
    ·rw [show j = k by omega]; exact h
   have bad : Js t s i k = false → ((List.range s.has.length).all fun i => (List.range s.has.length).all fun k => Js t s i k) = false := fun h => AZ hi (AZ hk h)
   have hga : Js t s i k = (decide (i = k) || !TB t s.has s.jf a b || E4 (t.at a) (t.at b) (plR t s a) (plR t s b)) := by rw [Js, ha1, hb1, Int.toNat_natCast, Int.toNat_natCast]
   have hAt := fun (Q : VV → Prop) => A4F C (Wt t s.has s.jf) (a : Int) (b : Int) (by omega) (Q := Q)
   have hh : (decide ((0 : Int) ≤ (a : Int)) && BR ((Wt t s.has s.jf).getD (a : Int).toNat 0#64) (b : Int)) = TB t s.has s.jf a b := by rw [TB, decide_eq_true (by omega)]; rfl
   rw [hh] at hAt
   have hik : decide ((i : Int) = (k : Int)) = decide (i = k) := decide_eq_decide.2 ⟨fun h => by omega, fun h => by omega⟩
   cases d1 : decide (i = k) with
   | true =>
    simp only [EE, go_sem, ↓reduceIte, q8, q7, q2, q3, q4, Aq hi, Aq hk, hi, hk, ha1, hb1, hik, d1, A0]
    exact hgo (by rw [hga, d1]; rfl)
   | false =>
   cases d2 : TB t s.has s.jf a b with
   | false =>
    simp only [EE, go_sem, ↓reduceIte, q8, q7, q2, q3, q4, Aq hi, Aq hk, hi, hk, ha1, hb1, hik, d1, hAt, d2, A0]
    exact hgo (by rw [hga, d2]; simp)
   | true =>
   cases d3 : E4 (t.at a) (t.at b) (plR t s a) (plR t s b) with
   | true =>
    simp only [EE, go_sem, ↓reduceIte, q8, q7, q2, q3, q4, Aq hi, Aq hk, hi, hk, ha1, hb1, hik, d1, hAt, d2, A4 ha, A4 hb, Es C t s hs ha, Es C t s hs hb, Jo C, d3, A0]
    exact hgo (by rw [hga, d3]; simp)
   | false =>
    have e := bad (by rw [hga, d1, d2, d3]; rfl)
    simp only [EE, go_sem, ↓reduceIte, q8, q7, q2, q3, q4, Aq hi, Aq hk, hi, hk, ha1, hb1, hik, d1, hAt, d2, A4 ha, A4 hb, Es C t s hs ha, Es C t s hs hb, Jo C, d3, A0, e]
  ·rintro F h ⟨q7, q2, q3, q4, rfl, qr⟩
   simp only [EE, go_sem, ↓reduceIte, q7, q2, q3, q4]
   intro j hj
   rcases Nat.lt_or_ge j i with c | c
   ·exact pr j c
   ·rw [show j = i by omega]; exact AY qr
  ·simp only [EE, go_sem, ↓reduceIte]
  ·simp only [EE, go_sem, ↓reduceIte, p7, p2, p3, p4]
   intro j hj; omega
 ·rintro F h ⟨p2, p3, p4, rfl, pr⟩
  have e := AY pr
  simp only [EE, go_sem, ↓reduceIte, p2, p3, p4, e]
 ·simp only [EE, go_sem, ↓reduceIte]
 ·simp only [EE, go_sem, ↓reduceIte]
  intro j hj; omega
theorem GR (t : A5) (ht : Aj t) (s : Ac) (hs : Ja s) : VP V Aa9 [vT t, JO s] Q ↔ Q (.b (A7r t s)) := by
 refine Ab ?_
 rw [A8 C.c_z6.1 C.c_z6.2]
 rw [AcA t ht]
 have hfm := fun (Q : VV → Prop) => C2 C t ht s hs (Q := Q)
 cases hf : BM t s with
 | false => simp only [A9v, A67, go_sem, ↓reduceIte, hfm, hf, Bool.false_and]
 | true =>
  have hfr := MW hf
  have hF := GG hfr
  have hhb := fun (Q : VV → Prop) => A0M C t ht s.has s.jf hs.has hs.jf hfr (Q := Q)
  rw [hbF, if_pos hfr] at hhb
  have hgd := fun (Q : VV → Prop) => Ul C t ht s hs hF.node (Q := Q)
  simp only [A9v, A67, go_sem, ↓reduceIte, hfm, hf, hhb, hgd, Bool.true_and]
end
end Go.AM

namespace Go.AM
open Go Go.Proofs
/-- A list that was nil at first, handed on. -/
def JK (ty e : Nat) (rows : List (List VV)) : VO := if rows.length = 0 then Do else { ty := ty, esz := e, ver := 0, nl := false, rows := rows }
def stJ (t : A5) (k : Nat) : List Int := List.replicate (EC t k).length (-1)
theorem Aez {t : A5} {k : Nat} (h : decide ((t.at k).up < 0) = true) : stJ t (k + 1) = stJ t k ++ [-1] := by
 unfold stJ
 rw [A27 h, List.length_append, List.length_singleton, List.replicate_succ']
theorem Af2 {t : A5} {k : Nat} (h : decide ((t.at k).up < 0) = false) : stJ t (k + 1) = stJ t k := by unfold stJ; rw [A3u h]
theorem Aab {t : A5} (k : Nat) : (stJ t k).length ≤ k := by unfold stJ; rw [List.length_replicate]; exact MX k
def Ha (k : Nat) : List (List (List Int)) := (List.range k).map fun (i : Nat) => [[(i : Int)]]
theorem A4z (k : Nat) : Ha (k + 1) = Ha k ++ [[[(k : Int)]]] := by
 unfold Ha
 rw [List.range_succ, List.map_append]; rfl
theorem A7G (k : Nat) : (Ha k).length = k := by simp [Ha]
def sTh (t : A5) (k j : Nat) : VH := [some ⟨A7, 0, 0, false, [[.nl, .nl, .nl]]⟩, some (AP AU 1 ((EC t k).map eI)), some (AP AU 1 ((stJ t k).map eI)), some (AP B9 1 ((Ha j).map Em)),
 some ⟨A7, 0, 0, false, [[.sl 1 (EC t k).length 0 (EC t k).length, .sl 2 (stJ t k).length 0 (stJ t k).length, .sl 3 (Ha j).length 0 (Ha j).length]]⟩]
theorem A5q (ty : Nat) (L : List (List Int)) (c : List Int) : ({ ty := ty, esz := 1, ver := L.length + 1, nl := false, rows := L.map GZ ++ [[VV.ls (c.map eI)]] } : VO) = AP ty 1 ((L ++ [c]).map GZ) := by
 rw [List.map_append]
 unfold AP
 rw [if_neg (by simp), List.length_append, List.length_map]; rfl
theorem A2L (ty : Nat) (L : List (List (List Int))) (c : List (List Int)) : ({ ty := ty, esz := 1, ver := L.length + 1, nl := false, rows := L.map Em ++ [[VV.ls (c.map GZ)]] } : VO) = AP ty 1 ((L ++ [c]).map Em) := by
 rw [List.map_append]
 unfold AP
 rw [if_neg (by simp), List.length_append, List.length_map]; rfl
def cpH (s : Ac) (L : List (List (List Int))) : VH := [some ⟨A7, 0, 0, false, [[.nl, .nl, .nl]]⟩, some (P6 AU 1 (s.has.map eI)), some (P6 AU 1 (s.jf.map eI)),
 some ⟨A7, 0, 0, false, [[.sl 1 (EK s.has.length) 0 s.has.length, .sl 2 (EK s.jf.length) 0 s.jf.length, .sl 4 L.length 0 L.length]]⟩, some (AP B9 1 (L.map Em))]
section
variable {V : At} (C : AS V) {Q : VV → Prop}
include C
set_option maxHeartbeats 4000000 in
theorem Rn (t : A5) (ht : Aj t) : VP V A1u [vT t] Q ↔ Q (JO (Kq t)) := by
 refine Ab ?_
 rw [A8 C.c_z20.1 C.c_z20.2]
 have h64 := ht.n64
 have hl4 := ht.l4
 simp only [A5b, Gk, go_sem, ↓reduceIte]
 refine Ad (by decide) t.nodes.length (by omega) (I := fun k F h => A3.tmp F 1 = .fp (eT t) 0 ∧ A3.tmp F 2 = .p 0 0 0 0 ∧ A3.tmp F 3 = .p 4 0 0 0 ∧ h = sTh t k 0) ?_ ?_ ?_ 0 _ _ (Nat.zero_le _) ?_ ?_
 ·rintro k F h hk p4 ⟨p1, p2, p3, rfl⟩
  simp only [Gk, go_sem, ↓reduceIte, p4, p1, p2, p3]
 ·rintro k F h hk p4 ⟨p1, p2, p3, rfl⟩
  have hlen := MX (t := t) k
  cases c : decide ((t.at k).up < 0) with
  | true =>
   have b1 : ((EC t k).length + 1) * 8 ≤ A6 := by unfold A6; omega
   have hj := Aab (t := t) k
   have b2 : ((stJ t k).length + 1) * 8 ≤ A6 := by unfold A6; omega
   simp only [Gk, go_sem, ↓reduceIte, p4, p1, p2, p3, hk, A4 hk, c, sTh, A27 c, Aez c, A0, b1, b2, List.length_map, List.length_append]
  | false =>
   simp only [Gk, go_sem, ↓reduceIte, p4, p1, p2, p3, hk, A4 hk, c, sTh, A3u c, Af2 c, A0]
 ·rintro F h ⟨p1, p2, p3, rfl⟩
  simp only [Gk, go_sem, ↓reduceIte, p1, p2, p3]
  refine Ad (by decide) t.locs.length (by omega) (I := fun j F h => A3.tmp F 1 = .fp (eT t) 0 ∧ A3.tmp F 2 = .p 0 0 0 0 ∧ A3.tmp F 3 = .p 4 0 0 0 ∧ h = sTh t t.nodes.length j) ?_ ?_ ?_ 0 _ _ (Nat.zero_le _) ?_ ?_
  ·rintro k F h hk p5 ⟨p1, p2, p3, rfl⟩
   simp only [Gk, go_sem, ↓reduceIte, p5, p1, p2, p3]
  ·rintro k F h hk p5 ⟨p1, p2, p3, rfl⟩
   have hm := A7G k
   have b1 : ((Ha k).length + 1) * 24 ≤ A6 := by unfold A6; omega
   simp only [Gk, go_sem, ↓reduceIte, p5, p1, p2, p3, hk, sTh, A4z, A0, b1, List.length_map, List.length_append]
   have e : List.map Em (Ha k ++ [[[(k : Int)]]]) = List.map Em (Ha k) ++ [[VV.ls [[VV.ls [[VV.i IntKind.i64 (k : Int)]]]]]] := by rw [List.map_append]; rfl
   have e2 : ({ ty := B9, esz := 1, ver := (Ha k).length + 1, nl := false, rows := List.map Em (Ha k) ++ [[VV.ls [[VV.ls [[VV.i IntKind.i64 (k : Int)]]]]]] } : VO) = AP B9 1 (List.map Em (Ha k ++ [[[(k : Int)]]])) := by
    rw [e]
    unfold AP
    rw [if_neg (by simp), List.length_append, List.length_map]; rfl
   rw [e2]
   refine ⟨.inr ?_, rfl⟩
   rw [List.all_append, Bool.and_eq_true]
   exact ⟨Hb (fun _ => rfl), rfl⟩
  ·rintro F h ⟨p1, p2, p3, rfl⟩
   simp only [Gk, go_sem, ↓reduceIte, p1, p2, p3, sTh]
   rfl
  ·simp only [Gk, go_sem, ↓reduceIte]
  ·simp only [Gk, go_sem, ↓reduceIte, p1, p2, p3]
 ·simp only [Gk, go_sem, ↓reduceIte]
 ·simp only [Gk, go_sem, ↓reduceIte]
  rfl
set_option maxHeartbeats 4000000 in
theorem L6 (s : Ac) (hs : Ja s) (b : Nat) {Q : VV → VH → Prop} : Yq V NX [JO s] b Q ↔ Q (.ag [.sl b 0 0 s.has.length, .sl (b + 1) 0 0 s.jf.length, .sl (b + 1 + 1) 0 0 s.mo.length]) [some ⟨AU, 1, 0, false, s.has.map eI⟩, some ⟨AU, 1, 0, false, s.jf.map eI⟩, some (JK B9 1 (s.mo.map Em))] := by
 refine LP ?_
 rw [Lj C.c_z25.2]
 have h1 := hs.has
 have h2 := hs.jf
 have h3 := hs.mo
 have b1 : s.has.length * 8 ≤ A6 := by unfold A6; omega
 have b2 : s.jf.length * 8 ≤ A6 := by unfold A6; omega
 simp only [Sf, GT, go_sem, ↓reduceIte, b1, b2]
 refine Ad (by decide) s.mo.length (by omega) (I := fun k F h => A3.tmp F 1 = .fp (Qa s) 0 ∧ A3.tmp F 2 = .p 0 0 0 0 ∧ A3.tmp F 3 = .p 3 0 0 0 ∧ ∃ L, L = s.mo.take k ∧ h = cpH s L) ?_ ?_ ?_ 0 _ _ (Nat.zero_le _) ?_ ?_
 ·rintro k F h hk p4 ⟨p1, p2, p3, L, hL, rfl⟩
  simp only [GT, go_sem, ↓reduceIte, p4, p1, p2, p3]
  exact ⟨L, hL, rfl⟩
 ·rintro k F h hk p4 ⟨p1, p2, p3, L, hL, rfl⟩
  have hm := hs.mi' k
  simp only [GT, go_sem, ↓reduceIte, p4, p1, p2, p3, A0, cpH]
  refine Ad (by decide) (s.mo.getD k []).length (by omega) (I := fun j F h => A3.tmp F 4 = .i .i64 k ∧ A3.tmp F 1 = .fp (Qa s) 0 ∧ A3.tmp F 2 = .p 0 0 0 0 ∧ A3.tmp F 3 = .p 3 0 0 0 ∧ ∃ K, K = (s.mo.getD k []).take j ∧ A3.tmp F 5 = .sl 5 K.length 0 K.length ∧ h = cpH s L ++ [some (AP CR 1 (K.map GZ))]) ?_ ?_ ?_ 0 _ _ (Nat.zero_le _) ?_ ?_
  ·rintro j F h hj q6 ⟨q4, q1, q2, q3, K, hK, q5, rfl⟩
   simp only [GT, go_sem, ↓reduceIte, q6, q4, q1, q2, q3, q5, Cc hk]
   exact ⟨K, hK, rfl, rfl⟩
  ·rintro j F h hj q6 ⟨q4, q1, q2, q3, K, hK, q5, rfl⟩
   have htk : (s.mo.getD k []).take (j + 1) = K ++ [(s.mo.getD k []).getD j []] := by
    rw [List.take_succ_eq_append_getElem hj, hK, List.getD_eq_getElem?_getD (l := s.mo.getD k []), List.getElem?_eq_getElem hj]; rfl
   have hc := hs.mc' k j
   have hl : K.length = j := by rw [hK, List.length_take]; omega
   have b3 : ((s.mo.getD k []).getD j []).length * 8 ≤ A6 := by unfold A6; omega
   have b4 : (K.length + 1) * 24 ≤ A6 := by unfold A6; omega
   simp only [GT, go_sem, ↓reduceIte, q6, q4, q1, q2, q3, q5, Cc hk, Gt hj, hk, hj, b3, b4, cpH, A5q, A0, List.length_append, List.length_map]
   exact ⟨K ++ [(s.mo.getD k []).getD j []], htk.symm, by simp, rfl⟩
  ·rintro F h ⟨q4, q1, q2, q3, K, hK, q5, rfl⟩
   rw [List.take_length] at hK
   subst hK
   have htk : s.mo.take (k + 1) = L ++ [s.mo.getD k []] := by
    rw [List.take_succ_eq_append_getElem hk, hL, List.getD_eq_getElem?_getD, List.getElem?_eq_getElem hk]; rfl
   have hl : L.length = k := by rw [hL, List.length_take]; omega
   have b4 : (L.length + 1) * 24 ≤ A6 := by unfold A6; omega
   simp only [GT, go_sem, ↓reduceIte, q4, q1, q2, q3, q5, b4, cpH, A2L, List.length_append, List.length_map]
   exact ⟨L ++ [s.mo.getD k []], htk.symm, by simp⟩
  ·simp only [GT, go_sem, ↓reduceIte]
  ·simp only [GT, go_sem, ↓reduceIte, p4, p1, p2, p3, cpH]
   exact ⟨[], rfl, rfl, rfl⟩
 ·rintro F h ⟨p1, p2, p3, L, hL, rfl⟩
  rw [List.take_length] at hL
  subst hL
  simp only [GT, go_sem, ↓reduceIte, p1, p2, p3, cpH, Bm, Bm.takeL]
  refine ⟨by decide, ?_⟩
  unfold AP JK
  split <;> simp_all [Do]
 ·simp only [GT, go_sem, ↓reduceIte]
 ·simp only [GT, go_sem, ↓reduceIte]
  exact ⟨[], rfl, rfl⟩
end
end Go.AM

namespace Go.AM
open Go Go.Proofs
def Pm : Ac := ⟨[], [], []⟩
def HU (o : Option Ac) : VV := match o with
 | some s => .tu [JO s, .b true]
 | none => .tu [JO Pm, .b false]
def DO (t : A5) (s : Ac) (n kind w : Int) : Option Ac := if Cd t s n kind = true then some (Bf s n w) else none
theorem Mh {l : List Int} {n : Int} {i : Nat} (h : i ≤ BO l n) : (i < l.length ∧ l.getD i 0 < n) ↔ i < BO l n := by
 constructor
 ·rintro ⟨h1, h2⟩
  rcases Nat.lt_or_ge i (BO l n) with c | c
  ·exact c
  ·have e : i = BO l n := by omega
   subst e
   exact absurd h2 (A8K h1)
 ·intro h2
  exact ⟨by have := G3 l n; omega, Ma h2⟩
theorem M0 {ty e : Nat} {rows : List (List VV)} : (JK ty e rows).ver = 0 := by unfold JK; split <;> rfl
theorem KT {ty e : Nat} {rows : List (List VV)} : (JK ty e rows).rows = rows := by
 unfold JK; split
 ·rename_i h; rw [List.length_eq_zero_iff.1 h]; rfl
 ·rfl
theorem M6 {ty : Nat} {rows : List (List VV)} : (decide (0 < (JK ty 1 rows).esz) || (JK ty 1 rows).nl) = true := by unfold JK; split <;> rfl
def moH (s : Ac) : VH := [some ⟨A7, 0, 0, false, [[.nl, .nl, .nl]]⟩, some ⟨AU, 1, 0, false, s.has.map eI⟩, some ⟨AU, 1, 0, false, s.jf.map eI⟩, some (JK B9 1 (s.mo.map Em)), some ⟨A7, 0, 0, false, [[.sl 1 0 0 s.has.length, .sl 2 0 0 s.jf.length, .sl 3 0 0 s.mo.length]]⟩]
section
variable {V : At} (C : AS V) {Q : VV → Prop}
include C
set_option maxRecDepth 4000 in
set_option maxHeartbeats 8000000 in
theorem Mw (t : A5) (ht : Aj t) (s : Ac) (hs : Ja s) (n kind w : Int) : VP V GL [vT t, JO s, .i .i64 n, .i .i64 kind, .i .i64 w] Q ↔ Q (HU (DO t s n kind w)) := by
 refine Ab ?_
 rw [A8 C.c_z108.1 C.c_z108.2]
 have hfm := fun (Q : VV → Prop) => C2 C t ht s hs (Q := Q)
 have hno : Cd t s n kind = false → HU (DO t s n kind w) = .tu [JO Pm, .b false] := fun h => by rw [DO, h]; rfl
 have e0 : (VV.tu [JO Pm, .b false]) = .tu [.ag [.ls [], .ls [], .ls []], .b false] := rfl
 have hle := hs.has
 cases hf : BM t s with
 | false =>
  rw [hno (by rw [Cd, hf]; rfl), e0]
  simp only [Cf, Bl, go_sem, ↓reduceIte, hfm, hf]
 | true =>
 cases h1 : C3 t n with
 | false =>
  rw [hno (by rw [Cd, hf, h1]; rfl), e0]
  simp only [Cf, Bl, go_sem, ↓reduceIte, hfm, hf, Al C, h1]
 | true =>
 obtain ⟨m, rfl, hm⟩ := Aa h1
 cases h2 : decide ((t.at m).kind = kind) with
 | false =>
  rw [hno (by rw [Cd, hf, h1, Int.toNat_natCast, h2]; rfl), e0]
  simp only [Cf, Bl, go_sem, ↓reduceIte, hfm, hf, Al C, h1, A4 hm, h2]
 | true =>
 have w1 := DV s.has (m : Int)
 cases h3 : Be s.has (m : Int) with
 | true =>
  rw [hno (by rw [Cd, hf, h1, Int.toNat_natCast, h2, h3]; rfl), e0]
  rw [h3] at w1
  simp only [Cf, Bl, go_sem, ↓reduceIte, hfm, hf, Al C, h1, A4 hm, h2, A9 C s.has (by omega), w1]
 | false =>
 rw [h3] at w1
 have w2 := BT s.has (t.at m).up
 cases h4 : Be s.has (t.at m).up with
 | false =>
  rw [hno (by rw [Cd, hf, h1, Int.toNat_natCast, h2, h3, h4]; rfl), e0]
  rw [h4] at w2
  simp only [Cf, Bl, go_sem, ↓reduceIte, hfm, hf, Al C, h1, A4 hm, h2, A9 C s.has (by omega), w1, w2]
 | true =>
 rw [h4] at w2
 have hok : DO t s m kind w = some (Bf s m w) := by rw [DO, Cd, hf, h1, Int.toNat_natCast, h2, h3, h4]; rfl
 rw [hok]
 have hcp := fun (b : Nat) (Q : VV → VH → Prop) => L6 C s hs b (Q := Q)
 simp only [Cf, Bl, go_sem, ↓reduceIte, hfm, hf, Al C, h1, A4 hm, h2, A9 C s.has (by omega), w1, w2, hcp]
 unfold VL
 rw [A0]
 have hjl : s.jf.length = s.has.length := by simp only [BM, Bool.and_eq_true, decide_eq_true_eq] at hf; exact hf.1.1.1.1.2
 refine AG (M := Nat) (I := fun i F h => i ≤ BO s.has m ∧ A3.tmp F 2 = .i .i64 m ∧ A3.tmp F 4 = .i .i64 w ∧ A3.tmp F 6 = .fp (Qa s) 0 ∧ A3.tmp F 10 = .p 0 0 0 0 ∧ A3.tmp F 12 = .p 4 0 0 0 ∧ A3.tmp F 13 = .i .i64 i ∧ h = moH s) (μ := fun i => s.has.length - i) ?_ 0 _ _ ⟨Nat.zero_le _, ?_, ?_, ?_, ?_, ?_, ?_, rfl⟩
 ·rintro i F h ⟨hi, p2, p4, p6, p10, p12, p13, rfl⟩
  have hiff := Mh hi
  have hkl := G3 s.has m
  by_cases c : i < s.has.length
  ·cases c2 : decide (s.has.getD i 0 < (m : Int)) with
   | true =>
    have c2' := of_decide_eq_true c2
    have hlt := hiff.1 ⟨c, c2'⟩
    have hw : IntKind.i64.wrap ((i : Int) + 1) = ((i + 1 : Nat) : Int) := by rw [AE (by omega) (by omega)]; omega
    simp only [Er, Bl, go_sem, ↓reduceIte, p2, p4, p6, p10, p12, p13, c, Aq c, c2, A0, hw]
    exact ⟨i + 1, by omega, by omega, rfl, rfl, rfl⟩
   | false =>
    have c2' := of_decide_eq_false c2
    have e : i = BO s.has m := by
     rcases Nat.lt_or_ge i (BO s.has m) with h | h
     ·exact absurd (Ma h) c2'
     ·omega
    obtain ⟨A, hA⟩ : ∃ A, A = s.has.take i := ⟨_, rfl⟩
    obtain ⟨B, hB⟩ : ∃ B, B = s.has.drop i := ⟨_, rfl⟩
    obtain ⟨A', hA'⟩ : ∃ A, A = s.jf.take i := ⟨_, rfl⟩
    obtain ⟨B', hB'⟩ : ∃ B, B = s.jf.drop i := ⟨_, rfl⟩
    have lA : A.length = i := by rw [hA, List.length_take]; omega
    have lA' : A'.length = i := by rw [hA', List.length_take]; omega
    have lB : B.length = s.has.length - i := by rw [hB, List.length_drop]
    have lB' : B'.length = s.jf.length - i := by rw [hB', List.length_drop]
    have tB : List.take (s.has.length - i) B = B := List.take_of_length_le (by omega)
    have tB' : List.take (s.jf.length - i) B' = B' := List.take_of_length_le (by omega)
    have c1 : i ≤ s.has.length := by omega
    have c1' : i ≤ s.jf.length := by omega
    have b1 : A.length * 8 ≤ A6 := by unfold A6; omega
    have b1' : A'.length * 8 ≤ A6 := by unfold A6; omega
    have b2 : (A.length + 1) * 8 ≤ A6 := by unfold A6; omega
    have b2' : (A'.length + 1) * 8 ≤ A6 := by unfold A6; omega
    obtain ⟨b0, Bs, rfl⟩ : ∃ b0 Bs, B = b0 :: Bs := by
     cases B with
     | nil => simp at lB; omega
     | cons b0 Bs => exact ⟨b0, Bs, rfl⟩
    obtain ⟨b0', Bs', rfl⟩ : ∃ b0 Bs, B' = b0 :: Bs := by
     cases B' with
     | nil => simp at lB'; omega
     | cons b0 Bs => exact ⟨b0, Bs, rfl⟩
    rw [List.length_cons] at lB lB'
    have tBm : List.take (s.has.length - i) (eI b0 :: List.map eI Bs) = eI b0 :: List.map eI Bs := List.take_of_length_le (by simp; omega)
    have tBm' : List.take (s.jf.length - i) (eI b0' :: List.map eI Bs') = eI b0' :: List.map eI Bs' := List.take_of_length_le (by simp; omega)
    obtain ⟨X, hX⟩ : ∃ X, X = A ++ [(m : Int)] ++ b0 :: Bs := ⟨_, rfl⟩
    obtain ⟨X', hX'⟩ : ∃ X, X = A' ++ [w] ++ b0' :: Bs' := ⟨_, rfl⟩
    have jX : List.map eI (A ++ [(m : Int)]) ++ eI b0 :: List.map eI Bs = List.map eI X := by rw [hX, List.map_append (l₁ := A ++ [(m : Int)])]; rfl
    have jX' : List.map eI (A' ++ [w]) ++ eI b0' :: List.map eI Bs' = List.map eI X' := by rw [hX', List.map_append (l₁ := A' ++ [w])]; rfl
    have lX : A.length + 1 + (Bs.length + 1) = X.length := by rw [hX]; simp; omega
    have lX' : A'.length + 1 + (Bs'.length + 1) = X'.length := by rw [hX']; simp; omega
    have b3 : X.length * 8 ≤ A6 := by unfold A6; omega
    have b3' : X'.length * 8 ≤ A6 := by unfold A6; omega
    have eX : X = Ck s.has (BO s.has m) m := by rw [hX, Ck, ← e, ← hA, ← hB]; simp
    have eX' : X' = Ck s.jf (BO s.has m) w := by rw [hX', Ck, ← e, ← hA', ← hB']; simp
    simp only [Er, Bl, go_sem, ↓reduceIte, p2, p4, p6, p10, p12, p13, c, Aq c, c2, A0, moH, ← hA, ← hB, ← hA', ← hB', tBm, tBm', c1, c1', b1, b1', b2, b2', b3, b3', List.length_append, List.length_map, M0, KT, M6, jX, jX', lX, lX']
    rw [eX, eX']; rfl
  ·have e : i = BO s.has m := by omega
   obtain ⟨A, hA⟩ : ∃ A, A = s.has.take i := ⟨_, rfl⟩
   obtain ⟨B, hB⟩ : ∃ B, B = s.has.drop i := ⟨_, rfl⟩
   obtain ⟨A', hA'⟩ : ∃ A, A = s.jf.take i := ⟨_, rfl⟩
   obtain ⟨B', hB'⟩ : ∃ B, B = s.jf.drop i := ⟨_, rfl⟩
   have lA : A.length = i := by rw [hA, List.length_take]; omega
   have lA' : A'.length = i := by rw [hA', List.length_take]; omega
   have lB : B.length = s.has.length - i := by rw [hB, List.length_drop]
   have lB' : B'.length = s.jf.length - i := by rw [hB', List.length_drop]
   have tB : List.take (s.has.length - i) B = B := List.take_of_length_le (by omega)
   have tB' : List.take (s.jf.length - i) B' = B' := List.take_of_length_le (by omega)
   have c1 : i ≤ s.has.length := by omega
   have c1' : i ≤ s.jf.length := by omega
   have b1 : A.length * 8 ≤ A6 := by unfold A6; omega
   have b1' : A'.length * 8 ≤ A6 := by unfold A6; omega
   have b2 : (A.length + 1) * 8 ≤ A6 := by unfold A6; omega
   have b2' : (A'.length + 1) * 8 ≤ A6 := by unfold A6; omega
   obtain rfl : B = [] := List.length_eq_zero_iff.1 (by omega)
   obtain rfl : B' = [] := List.length_eq_zero_iff.1 (by omega)
   have b3 : (A.length + 1 + 0) * 8 ≤ A6 := by unfold A6; omega
   have b3' : (A'.length + 1 + 0) * 8 ≤ A6 := by unfold A6; omega
   simp only [Er, Bl, go_sem, ↓reduceIte, p2, p4, p6, p10, p12, p13, c, A0, moH, ← hA, ← hB, ← hA', ← hB', tB, tB', c1, c1', b1, b1', b2, b2', b3, b3', List.length_append, List.length_map, M0, KT, M6]
   have eX : A ++ [(m : Int)] = Ck s.has (BO s.has m) m := by rw [Ck, ← e, ← hA, ← hB]
   have eX' : A' ++ [w] = Ck s.jf (BO s.has m) w := by rw [Ck, ← e, ← hA', ← hB']
   rw [eX, eX']; rfl
 ·simp only [Bl, go_sem, ↓reduceIte]
 ·simp only [Bl, go_sem, ↓reduceIte]
 ·simp only [Bl, go_sem, ↓reduceIte]
 ·simp only [Bl, go_sem, ↓reduceIte]
 ·simp only [Bl, go_sem, ↓reduceIte]
 ·simp only [Bl, go_sem, ↓reduceIte]
end
end Go.AM

namespace Go.AM
open Go Go.Proofs
abbrev agS (s : Ac) (b : Nat) : VV := .ag [.sl b 0 0 s.has.length, .sl (b + 1) 0 0 s.jf.length, .sl (b + 1 + 1) 0 0 s.mo.length]
abbrev obS (s : Ac) : VH := [some ⟨AU, 1, 0, false, s.has.map eI⟩, some ⟨AU, 1, 0, false, s.jf.map eI⟩, some (JK B9 1 (s.mo.map Em))]
theorem WM {ty e : Nat} {rows : List (List VV)} : ({ ty := (JK ty e rows).ty, esz := (JK ty e rows).esz, ver := 0, nl := (JK ty e rows).nl, rows := rows } : VO) = JK ty e rows := by
 unfold JK
 split
 ·rename_i h; rw [List.length_eq_zero_iff.1 h]; rfl
 ·rfl
theorem R8 {α : Type} {g : α → Option (α × List Nat)} : ∀ (l : List α) (k : Nat) (x y : α) (ids : List Nat), (∀ a ∈ l, g a = some (a, [])) → k < l.length → g x = some (y, ids) → AW g (l.set k x) = some (l.set k y, ids)
 | [], k, x, y, ids, _, hk, _ => by simp at hk
 | a :: l, 0, x, y, ids, h, _, hx => by
  have hl : AW g l = some (l, []) := by
   have : ∀ (l : List α), (∀ a ∈ l, g a = some (a, [])) → AW g l = some (l, []) := by
    intro l
    induction l with
    | nil => intro _; rfl
    | cons b l ih => intro h; simp only [AW, h b (by simp), ih fun a ha => h a (by simp [ha]), List.nil_append]
   exact this l fun a ha => h a (by simp [ha])
  simp only [List.set_cons_zero, AW, hx, hl, List.append_nil]
 | a :: l, k + 1, x, y, ids, h, hk, hx => by
  have := R8 l k x y ids (fun a ha => h a (by simp [ha])) (by simpa using hk) hx
  simp only [List.set_cons_succ, AW, h a (by simp), this, List.nil_append]
theorem A6Y {H : VH} {l : List (List (List Int))} {k : Nat} (hk : k < l.length) {v : VV} {X : List (List Int)} {ids : List Nat} (hv : frz H 5 v = some (.ls (X.map GZ), ids)) :
  AW (fun row => AW (frz H 5) row) (List.take l.length ((l.map Em).set k [v])) = some ((l.set k X).map Em, ids) := by
 rw [List.take_of_length_le (by simp)]
 rw [List.map_set]
 refine R8 (l.map Em) k [v] (Em X) ids ?_ (by simpa using hk) ?_
 ·intro a ha
  obtain ⟨c, _, rfl⟩ := List.mem_map.1 ha
  simp only [go_sem, NO, ↓reduceIte]
 ·simp only [AW, hv, List.append_nil]
section
variable {V : At} (C : AS V)
include C
set_option maxHeartbeats 8000000 in
theorem QW (t : A5) (ht : Aj t) (s : Ac) (hs : Ja s) (n kind w : Int) (h0 : Cd t s n kind = false) (b : Nat) {Q : VV → VH → Prop} : Yq V GL [vT t, JO s, .i .i64 n, .i .i64 kind, .i .i64 w] b Q ↔ Q (.tu [JO Pm, .b false]) [] := by
 refine LP ?_
 rw [Lj C.c_z108.2]
 have hfm := fun (Q : VV → Prop) => C2 C t ht s hs (Q := Q)
 have e0 : (VV.tu [JO Pm, .b false]) = .tu [.ag [.ls [], .ls [], .ls []], .b false] := rfl
 have hle := hs.has
 rw [e0]
 cases hf : BM t s with
 | false =>
  simp only [Cf, Bl, go_sem, ↓reduceIte, hfm, hf, Bm, Bm.takeL]
  exact List.nodup_nil
 | true =>
 cases h1 : C3 t n with
 | false =>
  simp only [Cf, Bl, go_sem, ↓reduceIte, hfm, hf, Al C, h1, Bm, Bm.takeL]
  exact List.nodup_nil
 | true =>
 obtain ⟨m, rfl, hm⟩ := Aa h1
 cases h2 : decide ((t.at m).kind = kind) with
 | false =>
  simp only [Cf, Bl, go_sem, ↓reduceIte, hfm, hf, Al C, h1, A4 hm, h2, Bm, Bm.takeL]
  exact List.nodup_nil
 | true =>
 have w1 := DV s.has (m : Int)
 cases h3 : Be s.has (m : Int) with
 | true =>
  rw [h3] at w1
  simp only [Cf, Bl, go_sem, ↓reduceIte, hfm, hf, Al C, h1, A4 hm, h2, A9 C s.has (by omega), w1, Bm, Bm.takeL]
  exact List.nodup_nil
 | false =>
 rw [h3] at w1
 have w2 := BT s.has (t.at m).up
 cases h4 : Be s.has (t.at m).up with
 | false =>
  rw [h4] at w2
  simp only [Cf, Bl, go_sem, ↓reduceIte, hfm, hf, Al C, h1, A4 hm, h2, A9 C s.has (by omega), w1, w2, Bm, Bm.takeL]
  exact List.nodup_nil
 | true =>
  rw [Cd, hf, h1, Int.toNat_natCast, h2, h3, h4] at h0
  cases h0
set_option maxHeartbeats 8000000 in
theorem RN (t : A5) (ht : Aj t) (s : Ac) (hs : Ja s) {m : Nat} (hm : m < t.nodes.length) (kind w : Int) (hok : Cd t s m kind = true) (b : Nat) {Q : VV → VH → Prop} : Yq V GL [vT t, JO s, .i .i64 m, .i .i64 kind, .i .i64 w] b Q ↔ Q (.tu [agS (Bf s m w) b, .b true]) (obS (Bf s m w)) := by
 refine LP ?_
 rw [Lj C.c_z108.2]
 have hfm := fun (Q : VV → Prop) => C2 C t ht s hs (Q := Q)
 have hle := hs.has
 have h1 : C3 t (m : Int) = true := Da hm
 simp only [Cd, Bool.and_eq_true, Bool.not_eq_true', Int.toNat_natCast] at hok
 obtain ⟨⟨⟨⟨hf, _⟩, h2⟩, h3⟩, h4⟩ := hok
 have w1 := DV s.has (m : Int)
 have w2 := BT s.has (t.at m).up
 rw [h3] at w1
 rw [h4] at w2
 have hcp := fun (b : Nat) (Q : VV → VH → Prop) => L6 C s hs b (Q := Q)
 simp only [Cf, Bl, go_sem, ↓reduceIte, hfm, hf, Al C, h1, A4 hm, h2, A9 C s.has (by omega), w1, w2, hcp]
 unfold VL
 rw [A0]
 have hjl : s.jf.length = s.has.length := by simp only [BM, Bool.and_eq_true, decide_eq_true_eq] at hf; exact hf.1.1.1.1.2
 refine AG (M := Nat) (I := fun i F h => i ≤ BO s.has m ∧ A3.tmp F 2 = .i .i64 m ∧ A3.tmp F 4 = .i .i64 w ∧ A3.tmp F 6 = .fp (Qa s) 0 ∧ A3.tmp F 10 = .p 0 0 0 0 ∧ A3.tmp F 12 = .p 4 0 0 0 ∧ A3.tmp F 13 = .i .i64 i ∧ h = moH s) (μ := fun i => s.has.length - i) ?_ 0 _ _ ⟨Nat.zero_le _, ?_, ?_, ?_, ?_, ?_, ?_, rfl⟩
 ·rintro i F h ⟨hi, p2, p4, p6, p10, p12, p13, rfl⟩
  have hiff := Mh hi
  have hkl := G3 s.has m
  by_cases c : i < s.has.length
  ·cases c2 : decide (s.has.getD i 0 < (m : Int)) with
   | true =>
    have c2' := of_decide_eq_true c2
    have hlt := hiff.1 ⟨c, c2'⟩
    have hw : IntKind.i64.wrap ((i : Int) + 1) = ((i + 1 : Nat) : Int) := by rw [AE (by omega) (by omega)]; omega
    simp only [Er, Bl, go_sem, ↓reduceIte, p2, p4, p6, p10, p12, p13, c, Aq c, c2, A0, hw]
    exact ⟨i + 1, by omega, by omega, rfl, rfl, rfl⟩
   | false =>
    have c2' := of_decide_eq_false c2
    have e : i = BO s.has m := by
     rcases Nat.lt_or_ge i (BO s.has m) with h | h
     ·exact absurd (Ma h) c2'
     ·omega
    obtain ⟨A, hA⟩ : ∃ A, A = s.has.take i := ⟨_, rfl⟩
    obtain ⟨B, hB⟩ : ∃ B, B = s.has.drop i := ⟨_, rfl⟩
    obtain ⟨A', hA'⟩ : ∃ A, A = s.jf.take i := ⟨_, rfl⟩
    obtain ⟨B', hB'⟩ : ∃ B, B = s.jf.drop i := ⟨_, rfl⟩
    have lA : A.length = i := by rw [hA, List.length_take]; omega
    have lA' : A'.length = i := by rw [hA', List.length_take]; omega
    have lB : B.length = s.has.length - i := by rw [hB, List.length_drop]
    have lB' : B'.length = s.jf.length - i := by rw [hB', List.length_drop]
    have tB : List.take (s.has.length - i) B = B := List.take_of_length_le (by omega)
    have tB' : List.take (s.jf.length - i) B' = B' := List.take_of_length_le (by omega)
    have c1 : i ≤ s.has.length := by omega
    have c1' : i ≤ s.jf.length := by omega
    have b1 : A.length * 8 ≤ A6 := by unfold A6; omega
    have b1' : A'.length * 8 ≤ A6 := by unfold A6; omega
    have b2 : (A.length + 1) * 8 ≤ A6 := by unfold A6; omega
    have b2' : (A'.length + 1) * 8 ≤ A6 := by unfold A6; omega
    obtain ⟨b0, Bs, rfl⟩ : ∃ b0 Bs, B = b0 :: Bs := by
     cases B with
     | nil => simp at lB; omega
     | cons b0 Bs => exact ⟨b0, Bs, rfl⟩
    obtain ⟨b0', Bs', rfl⟩ : ∃ b0 Bs, B' = b0 :: Bs := by
     cases B' with
     | nil => simp at lB'; omega
     | cons b0 Bs => exact ⟨b0, Bs, rfl⟩
    rw [List.length_cons] at lB lB'
    have tBm : List.take (s.has.length - i) (eI b0 :: List.map eI Bs) = eI b0 :: List.map eI Bs := List.take_of_length_le (by simp; omega)
    have tBm' : List.take (s.jf.length - i) (eI b0' :: List.map eI Bs') = eI b0' :: List.map eI Bs' := List.take_of_length_le (by simp; omega)
    obtain ⟨X, hX⟩ : ∃ X, X = A ++ [(m : Int)] ++ b0 :: Bs := ⟨_, rfl⟩
    obtain ⟨X', hX'⟩ : ∃ X, X = A' ++ [w] ++ b0' :: Bs' := ⟨_, rfl⟩
    have jX : List.map eI (A ++ [(m : Int)]) ++ eI b0 :: List.map eI Bs = List.map eI X := by rw [hX, List.map_append (l₁ := A ++ [(m : Int)])]; rfl
    have jX' : List.map eI (A' ++ [w]) ++ eI b0' :: List.map eI Bs' = List.map eI X' := by rw [hX', List.map_append (l₁ := A' ++ [w])]; rfl
    have lX : A.length + 1 + (Bs.length + 1) = X.length := by rw [hX]; simp; omega
    have lX' : A'.length + 1 + (Bs'.length + 1) = X'.length := by rw [hX']; simp; omega
    have b3 : X.length * 8 ≤ A6 := by unfold A6; omega
    have b3' : X'.length * 8 ≤ A6 := by unfold A6; omega
    have eX : X = Ck s.has (BO s.has m) m := by rw [hX, Ck, ← e, ← hA, ← hB]; simp
    have eX' : X' = Ck s.jf (BO s.has m) w := by rw [hX', Ck, ← e, ← hA', ← hB']; simp
    simp only [Er, Bl, go_sem, ↓reduceIte, p2, p4, p6, p10, p12, p13, c, Aq c, c2, A0, moH, ← hA, ← hB, ← hA', ← hB', tBm, tBm', c1, c1', b1, b1', b2, b2', b3, b3', List.length_append, List.length_map, M0, KT, M6, Bm, Bm.takeL, jX, jX', lX, lX']
    exact ⟨by decide, by rw [eX, eX']; rfl, by rw [WM, eX, eX']; rfl⟩
  ·have e : i = BO s.has m := by omega
   obtain ⟨A, hA⟩ : ∃ A, A = s.has.take i := ⟨_, rfl⟩
   obtain ⟨B, hB⟩ : ∃ B, B = s.has.drop i := ⟨_, rfl⟩
   obtain ⟨A', hA'⟩ : ∃ A, A = s.jf.take i := ⟨_, rfl⟩
   obtain ⟨B', hB'⟩ : ∃ B, B = s.jf.drop i := ⟨_, rfl⟩
   have lA : A.length = i := by rw [hA, List.length_take]; omega
   have lA' : A'.length = i := by rw [hA', List.length_take]; omega
   have lB : B.length = s.has.length - i := by rw [hB, List.length_drop]
   have lB' : B'.length = s.jf.length - i := by rw [hB', List.length_drop]
   have tB : List.take (s.has.length - i) B = B := List.take_of_length_le (by omega)
   have tB' : List.take (s.jf.length - i) B' = B' := List.take_of_length_le (by omega)
   have c1 : i ≤ s.has.length := by omega
   have c1' : i ≤ s.jf.length := by omega
   have b1 : A.length * 8 ≤ A6 := by unfold A6; omega
   have b1' : A'.length * 8 ≤ A6 := by unfold A6; omega
   have b2 : (A.length + 1) * 8 ≤ A6 := by unfold A6; omega
   have b2' : (A'.length + 1) * 8 ≤ A6 := by unfold A6; omega
   obtain rfl : B = [] := List.length_eq_zero_iff.1 (by omega)
   obtain rfl : B' = [] := List.length_eq_zero_iff.1 (by omega)
   have b3 : (A.length + 1 + 0) * 8 ≤ A6 := by unfold A6; omega
   have b3' : (A'.length + 1 + 0) * 8 ≤ A6 := by unfold A6; omega
   simp only [Er, Bl, go_sem, ↓reduceIte, p2, p4, p6, p10, p12, p13, c, A0, moH, ← hA, ← hB, ← hA', ← hB', tB, tB', c1, c1', b1, b1', b2, b2', b3, b3', List.length_append, List.length_map, M0, KT, M6, Bm, Bm.takeL]
   have eX : A ++ [(m : Int)] = Ck s.has (BO s.has m) m := by rw [Ck, ← e, ← hA, ← hB]
   have eX' : A' ++ [w] = Ck s.jf (BO s.has m) w := by rw [Ck, ← e, ← hA', ← hB']
   have lX : A.length + 1 = (Ck s.has (BO s.has m) m).length := by rw [← eX]; simp
   have lX' : A'.length + 1 = (Ck s.jf (BO s.has m) w).length := by rw [← eX']; simp
   exact ⟨by decide, by rw [lX, lX']; rfl, by rw [WM, eX, eX']; rfl⟩
 ·simp only [Bl, go_sem, ↓reduceIte]
 ·simp only [Bl, go_sem, ↓reduceIte]
 ·simp only [Bl, go_sem, ↓reduceIte]
 ·simp only [Bl, go_sem, ↓reduceIte]
 ·simp only [Bl, go_sem, ↓reduceIte]
 ·simp only [Bl, go_sem, ↓reduceIte]
theorem XR (t : A5) (ht : Aj t) (s : Ac) (hs : Ja s) (n : Int) {Q : VV → Prop} : VP V A1Y [vT t, JO s, .i .i64 n] Q ↔ Q (HU (DO t s n 4 (-1))) := by
 refine Ab ?_
 rw [A8 C.c_z59.1 C.c_z59.2]
 have hm := fun (Q : VV → Prop) => Mw C t ht s hs n 4 (-1) (Q := Q)
 cases h : DO t s n 4 (-1) with
 | none =>
  rw [h] at hm
  simp only [HU, Pm] at hm ⊢
  simp only [A1w, WK, go_sem, ↓reduceIte, hm]
  rfl
 | some s' =>
  rw [h] at hm
  simp only [HU] at hm ⊢
  simp only [A1w, WK, go_sem, ↓reduceIte, hm]
def Sy (t : A5) (s : Ac) (n w : Int) : Option Ac := match DO t s n 2 w with
 | some s' => if BM t s' = true then some s' else none
 | none => none
theorem Vp (t : A5) (ht : Aj t) (s : Ac) (hs : Ja s) (hz : s.has.length < 1000 ∧ s.jf.length < 1000) (n w : Int) {Q : VV → Prop} : VP V A2S [vT t, JO s, .i .i64 n, .i .i64 w] Q ↔ Q (HU (Sy t s n w)) := by
 refine Ab ?_
 rw [A8 C.c_z60.1 C.c_z60.2]
 have hm := fun (Q : VV → Prop) => Mw C t ht s hs n 2 w (Q := Q)
 unfold Sy
 cases h : DO t s n 2 w with
 | none =>
  rw [h] at hm
  simp only [HU, Pm] at hm ⊢
  simp only [Yh, SN, go_sem, ↓reduceIte, hm]
  rfl
 | some s' =>
  rw [h] at hm
  have hs' : Ja s' := by
   rw [DO] at h
   split at h
   ·rename_i hok
    cases h
    have h1 := G3 s.has n
    have hj : s.jf.length = s.has.length := by
     simp only [Cd, BM, Bool.and_eq_true, decide_eq_true_eq] at hok
     exact hok.1.1.1.1.1.1.1.1.2
    exact ⟨by show (Ck _ _ _).length ≤ 1000; rw [Gh h1]; omega, by show (Ck _ _ _).length ≤ 1000; rw [Gh (by omega)]; omega, hs.mo, hs.mi, hs.mc⟩
   ·cases h
  have hf := fun (Q : VV → Prop) => C2 C t ht s' hs' (Q := Q)
  cases hff : BM t s' with
  | false =>
   simp only [HU, Pm, hff, Bool.false_eq_true, if_false] at hm ⊢
   simp only [Yh, SN, go_sem, ↓reduceIte, hm, hf, hff]
   rfl
  | true =>
   simp only [HU, hff, if_true] at hm ⊢
   simp only [Yh, SN, go_sem, ↓reduceIte, hm, hf, hff]
def Lm (t : A5) (s : Ac) (n at_ : Int) : Option Ac := match DO t s n 3 (-1) with
 | some s' => if at_ < 1 ∨ ((s'.mo.getD (t.at n.toNat).loc.toNat []).length : Int) < at_ then none else
   some { s' with mo := s'.mo.set (t.at n.toNat).loc.toNat ((s'.mo.getD (t.at n.toNat).loc.toNat []).take at_.toNat ++ [n] :: (s'.mo.getD (t.at n.toNat).loc.toNat []).drop at_.toNat) }
 | none => none
set_option maxHeartbeats 4000000 in
theorem Rr (t : A5) (ht : Aj t) (s : Ac) (hs : Ja s) (n at_ : Int) {Q : VV → Prop} : VP V A1b [vT t, JO s, .i .i64 n, .i .i64 at_] Q ↔ Q (HU (Lm t s n at_)) := by
 refine Ab ?_
 rw [A8 C.c_z62.1 C.c_z62.2]
 unfold Lm DO
 cases hok : Cd t s n 3 with
 | false =>
  have hm := fun (b : Nat) (Q : VV → VH → Prop) => QW C t ht s hs n 3 (-1) hok b (Q := Q)
  simp only [HU, Pm, Bool.false_eq_true, if_false] at hm ⊢
  simp only [QM, JC, go_sem, ↓reduceIte, hm]
  rfl
 | true =>
  have hok' := hok
  simp only [Cd, Bool.and_eq_true, decide_eq_true_eq] at hok'
  obtain ⟨⟨⟨⟨hf, h1⟩, h2⟩, h3⟩, h4⟩ := hok'
  obtain ⟨m, rfl, hmn⟩ := Aa h1
  rw [Int.toNat_natCast] at h2
  have hm := fun (b : Nat) (Q : VV → VH → Prop) => RN C t ht s hs hmn 3 (-1) hok b (Q := Q)
  have hmo : s.mo.length = t.locs.length := by simp only [BM, Bool.and_eq_true, decide_eq_true_eq] at hf; exact hf.1.1.1.2
  obtain ⟨l0, l1⟩ := ht.wloc hmn (.inr h2)
  obtain ⟨loc, hloc⟩ := Int.eq_ofNat_of_zero_le l0
  have hll : loc < s.mo.length := by omega
  rw [if_pos rfl]
  simp only [Int.toNat_natCast, hloc]
  have hll' : loc < (Bf s m (-1)).mo.length := hll
  have hz : JK B9 1 (List.map Em (Bf s m (-1)).mo) = ⟨B9, 1, 0, false, List.map Em (Bf s m (-1)).mo⟩ := by
   unfold JK
   rw [if_neg (by rw [List.length_map]; omega)]
  have C1 := Cc hll'
  have hsz := hs.mi' loc
  obtain ⟨L, hL⟩ : ∃ L, L = (Bf s m (-1)).mo.getD loc [] := ⟨_, rfl⟩
  rw [← hL] at C1
  have hLl : L.length ≤ 1000 := by rw [hL]; exact hsz
  rw [← hL]
  cases c1 : decide (at_ < 1) with
  | true =>
   rw [if_pos (.inl (of_decide_eq_true c1))]
   simp only [HU, Pm]
   simp only [QM, JC, go_sem, ↓reduceIte, hm, A4 hmn, hloc, hz, C1, hll', c1]
   rfl
  | false =>
  have c1' := of_decide_eq_false c1
  obtain ⟨a, rfl⟩ := Int.eq_ofNat_of_zero_le (show 0 ≤ at_ by omega)
  have c2n : decide ((L.length : Int) < (a : Int)) = decide (L.length < a) := decide_eq_decide.2 ⟨fun h => by omega, fun h => by omega⟩
  cases c2 : decide (L.length < a) with
  | true =>
   have := of_decide_eq_true c2
   rw [if_pos (.inr (by omega))]
   simp only [HU, Pm]
   simp only [QM, JC, go_sem, ↓reduceIte, hm, A4 hmn, hloc, hz, C1, hll', c1, c2n, c2]
   rfl
  | false =>
  have c2' := of_decide_eq_false c2
  rw [if_neg (by omega), Int.toNat_natCast]
  have c3 : a ≤ L.length := by omega
  obtain ⟨A, hA⟩ : ∃ A, A = L.take a := ⟨_, rfl⟩
  obtain ⟨B, hB⟩ : ∃ B, B = L.drop a := ⟨_, rfl⟩
  have lA : A.length = a := by rw [hA, List.length_take]; omega
  have lB : B.length = L.length - a := by rw [hB, List.length_drop]
  have b1 : A.length * 24 ≤ A6 := by unfold A6; omega
  have b2 : (A.length + 1) * 24 ≤ A6 := by unfold A6; omega
  have jA : List.map GZ A ++ [[VV.ls [[VV.i .i64 (m : Int)]]]] = List.map GZ (A ++ [[(m : Int)]]) := by rw [List.map_append]; rfl
  rw [← hA, ← hB]
  cases B with
  | nil =>
   have b3 : (A.length + 1 + 0) * 24 ≤ A6 := by unfold A6; omega
   have tB : List.take (L.length - a) ([] : List (List Int)) = [] := List.take_nil
   simp only [QM, JC, go_sem, ↓reduceIte, hm, A4 hmn, hloc, hz, C1, hll', c1, c2n, c2, c3, ← hA, ← hB, tB, b1, b2, b3, jA, List.length_append, List.length_map]
   rw [A6Y hll' (X := A ++ [[(m : Int)]]) (ids := [8]) (by simp only [JC, go_sem, ↓reduceIte, List.length_append, List.length_map])]
   simp only [JC, go_sem, ↓reduceIte, List.length_set, List.length_map]
   rfl
  | cons b0 Bs =>
   rw [List.length_cons] at lB
   obtain ⟨X, hX⟩ : ∃ X, X = A ++ [[(m : Int)]] ++ b0 :: Bs := ⟨_, rfl⟩
   have tBm : List.take (L.length - a) (GZ b0 :: List.map GZ Bs) = GZ b0 :: List.map GZ Bs := List.take_of_length_le (by simp; omega)
   have jX : List.map GZ (A ++ [[(m : Int)]]) ++ GZ b0 :: List.map GZ Bs = List.map GZ X := by rw [hX, List.map_append (l₁ := A ++ [[(m : Int)]])]; rfl
   have lX : A.length + 1 + (Bs.length + 1) = X.length := by rw [hX]; simp; omega
   have b3 : X.length * 24 ≤ A6 := by unfold A6; omega
   simp only [QM, JC, go_sem, ↓reduceIte, hm, A4 hmn, hloc, hz, C1, hll', c1, c2n, c2, c3, ← hA, ← hB, tBm, b1, b2, b3, jA, jX, lX, List.length_append, List.length_map]
   rw [A6Y hll' (X := X) (ids := [8]) (by simp only [JC, go_sem, ↓reduceIte])]
   simp only [JC, go_sem, ↓reduceIte, List.length_set, List.length_map]
   have eX : X = A ++ [(m : Int)] :: b0 :: Bs := by rw [hX]; simp
   rw [eX]; rfl
end
end Go.AM
