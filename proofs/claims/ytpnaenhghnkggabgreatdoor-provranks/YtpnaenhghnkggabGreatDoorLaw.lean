/-
  PROVED: ProvRanksCardSaid: whatever bytes come in, withelaw29.ProvRanks returns true, and the input reads behind the call as it read before. Conditions: those of the given row (it lists the table math/bits.deBruijn64tab, which the card ties to the program's text); no others.
-/
import Derived.Test.YtpnaenhghnkggabGreatDoorIn
import Derived.Test.YtpnaenhghnkggabGreatDoorSeat
import Derived.Test.YtpnaenhghnkggabGreatDoorCe
import Derived.Test.YtpnaenhghnkggabGreatDoorKP
import Derived.Test.YtpnaenhghnkggabGreatDoorCards
import Derived.Test.YtpnaenhghnkggabGreatDoorTie
namespace Go.Proofs.YtpnaenhghnkggabGreatDoor
open Go Go.Shelf Go.ChangeShapes Go.WideShapes Go.ChangeAt Go.RowKit
set_option linter.unusedVariables false
theorem own : ownKnob Tryz.prog.godebug = none := by kernel_rfl
theorem Ks : Tryz.prog.globalNamed "math/bits.deBruijn64tab" = some (AQ.g 1) := by kernel_rfl
theorem K2 : mA.ext (AQ.f 29) = some AM.ctzX := by
  show (bif Nat.beq (AQ.f 29) (AQ.f 29) then some AM.ctzX else none) = _
  rw [show Nat.beq (AQ.f 29) (AQ.f 29) = true from Nat.beq_refl _]; rfl
abbrev laidL : List (String × DataW Unit) := [("math/bits.deBruijn64tab", Rows.laid_math_bits_deBruijn64tab)]
theorem A11 (W : World) (hL : laidMet Tryz.prog laidL W) : TabAt (AQ.g 1) Lib.deBruijn64tab W :=
  AM.tab_of_laid (n := 64) (t := 226) (e := 5) Ks (by kernel_rfl) (by kernel_rfl) (by kernel_rfl) (by kernel_rfl) (by kernel_rfl) rfl hL
theorem MB : laidOutB Tryz.prog = true := by kernel_rfl
open AM in
theorem Qd (Q : VV → Prop) : VP vA S8 [] Q ↔ Q (.b true) := Ad (Cep1.t1289 Tr)
open AM in
theorem Hp : DR Tryz.prog 22 fun v => ∃ l : List U8, v = lU l ∧ ∀ x ∈ l, x.n < 256 := A4A Tryz.underlying22 Tryz.underlying5 (by kernel_rfl)
set_option maxRecDepth 100000 in
open AM in
theorem RF : JN Tryz.prog [22, 22] fun vs => ∃ (l : List U8) (m : List U8), vs = [lU l, lU m] ∧ (∀ x ∈ l, x.n < 256) ∧ (∀ x ∈ m, x.n < 256) := by
  have A := CD Hp (CD Hp M4)
  intro H enc W r base b0 held us ds ps σ ρ J hu hd
  obtain ⟨σ', ρ', ws, vs, h1, h2, h3, h4, _, _, rfl, ⟨l, rfl, hl⟩, _, _, rfl, ⟨m, rfl, hm⟩, rfl⟩ := A H enc W r base b0 held us ds ps σ ρ J hu hd
  exact ⟨σ', ρ', ws, _, h1, h2, h3, h4, l, m, rfl, hl, hm⟩
set_option maxRecDepth 100000 in
theorem QB (os : Os) (started : os.Started) (H : Type) (enc : TypeId × Value → H) :
    ReturnsInHanded {} Tryz.checked os 5 .any (fun w args => (Rows.provRanksSpec.pre enc Tryz.prog Tryz.f5 [] false w args ∧ laidMet Tryz.prog laidL w) ∧ sizedMet enc Tryz.prog Tryz.f5 (OpenSpec.ofChange Rows.provRanksSpec) false w args)
      (Rows.provRanksSpec.post enc Tryz.prog Tryz.f5 false true false false) :=
  AM.law_row (C := Tryz.checked) (laidL := laidL) (bt := 4) A3r own started (by kernel_rfl) Tryz.func5 rfl rfl Tryz.underlying4
    (fun ds h => by match ds, h with | [d1, d2], _ => exact ⟨rfl, rfl, rfl⟩) MB
    (fun t ht => by
      have : t = 22 := by
        have h : t ∈ [22, 22] := ht
        simp only [List.mem_cons, List.not_mem_nil, or_false] at h
        rcases h with rfl | rfl <;> simp
      rcases this with rfl <;> exact ⟨by kernel_rfl, by decide +kernel⟩)
    (ChangeSpec.witness_at (enc := enc) (C := Tryz.checked) (os := os) (X := fun w _ => laidMet Tryz.prog laidL w) false (World.laidAll Tryz.prog os laidL) #[.slice .none 0 0, .slice .none 0 0] 12 (World.laidAll_os _ _ _) (by kernel_rfl) (by kernel_rfl) (by kernel_rfl) (by kernel_rfl) (by kernel_rfl)
      (laidMet_laidAll _ (by kernel_rfl) (by kernel_rfl)))
    A11 (mu := AM.muP) (muH := AM.muH) RF (by kernel_rfl) K2
    (fun vs ⟨l, m, hvs, hl, hm⟩ => by subst hvs; exact AM.law_ProvRanks Tr Qd l m hl hm)
theorem MJ : Rows.ProvRanksSaid :=
  OpenClaim.holds_of_wide 5 Tryz.f5 rfl rfl rfl rfl rfl rfl rfl ⟨rfl, rfl, rfl, rfl, rfl⟩ rfl rfl rfl rfl rfl (by kernel_rfl) Tryz.func5 (by kernel_rfl)
    (of_decide_eq_true (by kernel_rfl)) (by unfold Func.isWrapper; first | (rw [if_pos (by decide +kernel)]; kernel_rfl) | (rw [if_neg (by decide +kernel)]; exact ⟨rfl, rfl⟩))
    (fun os started H enc _ => QB os started H enc)
theorem card_holds : Rows.ProvRanksCardSaid :=
  Claim7.holds_tied_plain_at .later [] [.data] true (true, "696b32135054fece96a30b0c0c81acadaff80cb64c6790764c98136c1ca21b94") false
    MJ (fun _ h => by cases h) (by kernel_rfl) (fun _ h => by cases h) provRanks_row_tie rfl ⟨rfl, rfl⟩ (by kernel_rfl) rfl
    (fun f fn hf hfn => by
      obtain rfl : f = 5 := Option.some.inj ((show Tryz.prog.funcNamed "withe/withelaw29.ProvRanks" = some 5 by kernel_rfl).symm.trans hf) |>.symm
      obtain rfl : fn = Tryz.f5 := (Option.some.inj (Tryz.func5.symm.trans hfn)).symm
      exact ⟨by kernel_rfl, fun j t ht => by
        rw [Tryz.params5] at ht
        have h3 : t = 22 := by
          have h : t ∈ [22, 22] := by
            have := Array.mem_of_getElem? ht
            simpa using this
          simp only [List.mem_cons, List.not_mem_nil, or_false] at h
          rcases h with rfl | rfl <;> simp
        rcases h3 with rfl
        · exact (show Tryz.prog.wantsStandIn 22 = false by kernel_rfl)
        ⟩)
    (by kernel_rfl)
end Go.Proofs.YtpnaenhghnkggabGreatDoor
