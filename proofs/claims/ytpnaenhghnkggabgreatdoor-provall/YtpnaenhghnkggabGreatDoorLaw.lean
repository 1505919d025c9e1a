/-
  PROVED: ProvAllCardSaid: whatever bytes, bool, number and shape come in, withelaw29.ProvAll returns true, and the input reads behind the call as it read before. Conditions: those of the given row (it lists the table math/bits.deBruijn64tab, which the card ties to the program's text); no others.
-/
import Derived.Test.YtpnaenhghnkggabGreatDoorIn
import Derived.Test.YtpnaenhghnkggabGreatDoorSeat
import Derived.Test.YtpnaenhghnkggabGreatDoorCe
import Derived.Test.YtpnaenhghnkggabGreatDoorKP
import Derived.Test.YtpnaenhghnkggabGreatDoorCards
import Derived.Test.YtpnaenhghnkggabGreatDoorTie
namespace Go.Proofs.YtpnaenhghnkggabGreatDoor
open Go Go.Shelf Go.ChangeShapes Go.WideShapes Go.ChangeAt Go.RowKit
set_option linter.unusedVariables false
theorem own : ownKnob Tryz.prog.godebug = none := by kernel_rfl
theorem Ks : Tryz.prog.globalNamed "math/bits.deBruijn64tab" = some (AQ.g 1) := by kernel_rfl
theorem K2 : mA.ext (AQ.f 29) = some AM.ctzX := by
  show (bif Nat.beq (AQ.f 29) (AQ.f 29) then some AM.ctzX else none) = _
  rw [show Nat.beq (AQ.f 29) (AQ.f 29) = true from Nat.beq_refl _]; rfl
abbrev laidL : List (String × DataW Unit) := [("math/bits.deBruijn64tab", Rows.laid_math_bits_deBruijn64tab)]
theorem A11 (W : World) (hL : laidMet Tryz.prog laidL W) : TabAt (AQ.g 1) Lib.deBruijn64tab W :=
  AM.tab_of_laid (n := 64) (t := 226) (e := 5) Ks (by kernel_rfl) (by kernel_rfl) (by kernel_rfl) (by kernel_rfl) (by kernel_rfl) rfl hL
theorem MB : laidOutB Tryz.prog = true := by kernel_rfl
open AM in
theorem Qd (Q : VV → Prop) : VP vA S8 [] Q ↔ Q (.b true) := Ad (Cep1.t1289 Tr)
open AM in
theorem tkI : DH Tryz.prog 23 fun vs => ∃ l : List Int, vs = JC l := AfO Tryz.underlying23 Tryz.underlying3 (by kernel_rfl)
open AM in
theorem AmW : DH Tryz.prog 24 fun vs => ∃ l : List (List (List Int)), vs = [.ls (l.map De)] := AcZ Tryz.underlying24 (by kernel_rfl) (AcY Tryz.underlying61 (by kernel_rfl) tkI)
open AM in
theorem AfM : DR Tryz.prog 26 fun v => ∃ s : A6, v = Eu s := Ad0 Tryz.underlying26 rfl rfl rfl rfl rfl rfl rfl (by kernel_rfl) (by kernel_rfl) (by kernel_rfl) tkI AmW
open AM in
theorem Hp : DR Tryz.prog 22 fun v => ∃ l : List U8, v = lU l ∧ ∀ x ∈ l, x.n < 256 := A4A Tryz.underlying22 Tryz.underlying5 (by kernel_rfl)
open AM in
theorem AjF : DR Tryz.prog 4 fun v => ∃ b : Bool, v = .b b := AfN Tryz.underlying4
open AM in
theorem AmX : DR Tryz.prog 3 fun v => ∃ n : Int, v = .i .i64 n ∧ (Lit.int .i64 n).wf = true := AjG Tryz.underlying3
set_option maxRecDepth 100000 in
open AM in
theorem RF : JN Tryz.prog [22, 22, 4, 3, 26] fun vs => ∃ (l : List U8) (m : List U8) (right : Bool) (e : Int) (s : A6), vs = [lU l, lU m, .b right, .i .i64 e, Eu s] ∧ (∀ x ∈ l, x.n < 256) ∧ (∀ x ∈ m, x.n < 256) := by
  have A := CD Hp (CD Hp (CD AjF (CD AmX (CD AfM M4))))
  intro H enc W r base b0 held us ds ps σ ρ J hu hd
  obtain ⟨σ', ρ', ws, vs, h1, h2, h3, h4, _, _, rfl, ⟨l, rfl, hl⟩, _, _, rfl, ⟨m, rfl, hm⟩, _, _, rfl, ⟨right, rfl⟩, _, _, rfl, ⟨e, rfl, _⟩, _, _, rfl, ⟨s, rfl⟩, rfl⟩ := A H enc W r base b0 held us ds ps σ ρ J hu hd
  exact ⟨σ', ρ', ws, _, h1, h2, h3, h4, l, m, right, e, s, rfl, hl, hm⟩
set_option maxRecDepth 100000 in
theorem QB (os : Os) (started : os.Started) (H : Type) (enc : TypeId × Value → H) :
    ReturnsInHanded {} Tryz.checked os 3 .any (fun w args => (Rows.provAllSpec.pre enc Tryz.prog Tryz.f3 [] false w args ∧ laidMet Tryz.prog laidL w) ∧ sizedMet enc Tryz.prog Tryz.f3 (OpenSpec.ofChange Rows.provAllSpec) false w args)
      (Rows.provAllSpec.post enc Tryz.prog Tryz.f3 false true false false) :=
  AM.law_row (C := Tryz.checked) (laidL := laidL) (bt := 4) A3r own started (by kernel_rfl) Tryz.func3 rfl rfl Tryz.underlying4
    (fun ds h => by match ds, h with | [d1, d2, d3, d4, d5], _ => exact ⟨rfl, rfl, rfl⟩) MB
    (fun t ht => by
      have : t = 22 ∨ t = 4 ∨ t = 3 ∨ t = 26 := by
        have h : t ∈ [22, 22, 4, 3, 26] := ht
        simp only [List.mem_cons, List.not_mem_nil, or_false] at h
        rcases h with rfl | rfl | rfl | rfl | rfl <;> simp
      rcases this with rfl | rfl | rfl | rfl <;> exact ⟨by kernel_rfl, by decide +kernel⟩)
    (ChangeSpec.witness_at (enc := enc) (C := Tryz.checked) (os := os) (X := fun w _ => laidMet Tryz.prog laidL w) false (World.laidAll Tryz.prog os laidL) #[.slice .none 0 0, .slice .none 0 0, .bool false, .int .i64 0, .agg #[.slice .none 0 0, .slice .none 0 0, .slice .none 0 0]] 12 (World.laidAll_os _ _ _) (by kernel_rfl) (by kernel_rfl) (by kernel_rfl) (by kernel_rfl) (by kernel_rfl)
      (laidMet_laidAll _ (by kernel_rfl) (by kernel_rfl)))
    A11 (mu := AM.muP) (muH := AM.muH) RF (by kernel_rfl) K2
    (fun vs ⟨l, m, right, e, s, hvs, hl, hm⟩ => by subst hvs; exact AM.law_ProvAll Tr Qd l m right e s hl hm)
theorem MJ : Rows.ProvAllSaid :=
  OpenClaim.holds_of_wide 3 Tryz.f3 rfl rfl rfl rfl rfl rfl rfl ⟨rfl, rfl, rfl, rfl, rfl⟩ rfl rfl rfl rfl rfl (by kernel_rfl) Tryz.func3 (by kernel_rfl)
    (of_decide_eq_true (by kernel_rfl)) (by unfold Func.isWrapper; first | (rw [if_pos (by decide +kernel)]; kernel_rfl) | (rw [if_neg (by decide +kernel)]; exact ⟨rfl, rfl⟩))
    (fun os started H enc _ => QB os started H enc)
theorem card_holds : Rows.ProvAllCardSaid :=
  Claim7.holds_tied_plain_at .later [] [.data] true (true, "696b32135054fece96a30b0c0c81acadaff80cb64c6790764c98136c1ca21b94") false
    MJ (fun _ h => by cases h) (by kernel_rfl) (fun _ h => by cases h) provAll_row_tie rfl ⟨rfl, rfl⟩ (by kernel_rfl) rfl
    (fun f fn hf hfn => by
      obtain rfl : f = 3 := Option.some.inj ((show Tryz.prog.funcNamed "withe/withelaw29.ProvAll" = some 3 by kernel_rfl).symm.trans hf) |>.symm
      obtain rfl : fn = Tryz.f3 := (Option.some.inj (Tryz.func3.symm.trans hfn)).symm
      exact ⟨by kernel_rfl, fun j t ht => by
        rw [Tryz.params3] at ht
        have h3 : t = 22 ∨ t = 4 ∨ t = 3 ∨ t = 26 := by
          have h : t ∈ [22, 22, 4, 3, 26] := by
            have := Array.mem_of_getElem? ht
            simpa using this
          simp only [List.mem_cons, List.not_mem_nil, or_false] at h
          rcases h with rfl | rfl | rfl | rfl | rfl <;> simp
        rcases h3 with rfl | rfl | rfl | rfl
        · exact (show Tryz.prog.wantsStandIn 22 = false by kernel_rfl)
        · exact (show Tryz.prog.wantsStandIn 4 = false by kernel_rfl)
        · exact (show Tryz.prog.wantsStandIn 3 = false by kernel_rfl)
        · exact (show Tryz.prog.wantsStandIn 26 = false by kernel_rfl)
        ⟩)
    (by kernel_rfl)
end Go.Proofs.YtpnaenhghnkggabGreatDoor
