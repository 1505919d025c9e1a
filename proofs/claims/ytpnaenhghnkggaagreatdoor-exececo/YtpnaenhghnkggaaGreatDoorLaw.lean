/-
  PROVED: ExecEcoCardSaid: whatever bytes come in, withelaw27.ExecEco returns true, and the input reads behind the call as it read before. Conditions: those of the given row (it lists the table math/bits.deBruijn64tab, which the card ties to the program's text); no others.
-/
import Derived.Test.YtpnaenhghnkggaaGreatDoorIn
import Derived.Test.YtpnaenhghnkggaaGreatDoorSeat
import Derived.Test.YtpnaenhghnkggaaGreatDoorCe
import Derived.Test.YtpnaenhghnkggaaGreatDoorKQ
import Derived.Test.YtpnaenhghnkggaaGreatDoorCards
import Derived.Test.YtpnaenhghnkggaaGreatDoorTie
namespace Go.Proofs.YtpnaenhghnkggaaGreatDoor
open Go Go.Shelf Go.ChangeShapes Go.WideShapes Go.ChangeAt Go.RowKit
set_option linter.unusedVariables false
theorem own : ownKnob Tryz.prog.godebug = none := by kernel_rfl
theorem QD : Tryz.prog.globalNamed "math/bits.deBruijn64tab" = some (B8.g 1) := by kernel_rfl
theorem PC : mA.ext (B8.f 29) = some AM.ctzX := by
  show (bif Nat.beq (B8.f 29) (B8.f 29) then some AM.ctzX else none) = _
  rw [show Nat.beq (B8.f 29) (B8.f 29) = true from Nat.beq_refl _]; rfl
abbrev laidL : List (String × DataW Unit) := [("math/bits.deBruijn64tab", Rows.laid_math_bits_deBruijn64tab)]
theorem AaD (W : World) (hL : laidMet Tryz.prog laidL W) : TabAt (B8.g 1) Lib.deBruijn64tab W :=
  AM.tab_of_laid (n := 64) (t := 238) (e := 5) QD (by kernel_rfl) (by kernel_rfl) (by kernel_rfl) (by kernel_rfl) (by kernel_rfl) rfl hL
theorem Tp : laidOutB Tryz.prog = true := by kernel_rfl
open AM in
theorem A0t (Q : VV → Prop) : VP vA Zk [] Q ↔ Q (.b true) := Ad (Cex1.t988 A5Z)
open AM in
theorem LS : NV Tryz.prog 22 fun v => ∃ l : List U8, v = lU l ∧ ∀ x ∈ l, x.n < 256 := AaH Tryz.underlying22 Tryz.underlying5 (by kernel_rfl)
set_option maxRecDepth 100000 in
open AM in
theorem A3a : Kw Tryz.prog [22, 22] fun vs => ∃ (l : List U8) (m : List U8), vs = [lU l, lU m] ∧ (∀ x ∈ l, x.n < 256) ∧ (∀ x ∈ m, x.n < 256) := by
  have A := GY LS (GY LS QE)
  intro H enc W r base b0 held us ds ps σ ρ J hu hd
  obtain ⟨σ', ρ', ws, vs, h1, h2, h3, h4, _, _, rfl, ⟨l, rfl, hl⟩, _, _, rfl, ⟨m, rfl, hm⟩, rfl⟩ := A H enc W r base b0 held us ds ps σ ρ J hu hd
  exact ⟨σ', ρ', ws, _, h1, h2, h3, h4, l, m, rfl, hl, hm⟩
set_option maxRecDepth 100000 in
theorem A2s (os : Os) (started : os.Started) (H : Type) (enc : TypeId × Value → H) :
    ReturnsInHanded {} Tryz.checked os 6 .any (fun w args => (Rows.execEcoSpec.pre enc Tryz.prog Tryz.f6 [] false w args ∧ laidMet Tryz.prog laidL w) ∧ sizedMet enc Tryz.prog Tryz.f6 (OpenSpec.ofChange Rows.execEcoSpec) false w args)
      (Rows.execEcoSpec.post enc Tryz.prog Tryz.f6 false true false false) :=
  AM.law_row (C := Tryz.checked) (laidL := laidL) (bt := 4) A9u own started (by kernel_rfl) Tryz.func6 rfl rfl Tryz.underlying4
    (fun ds h => by match ds, h with | [d1, d2], _ => exact ⟨rfl, rfl, rfl⟩) Tp
    (fun t ht => by
      have : t = 22 := by
        have h : t ∈ [22, 22] := ht
        simp only [List.mem_cons, List.not_mem_nil, or_false] at h
        rcases h with rfl | rfl <;> simp
      rcases this with rfl <;> exact ⟨by kernel_rfl, by decide +kernel⟩)
    (ChangeSpec.witness_at (enc := enc) (C := Tryz.checked) (os := os) (X := fun w _ => laidMet Tryz.prog laidL w) false (World.laidAll Tryz.prog os laidL) #[.slice .none 0 0, .slice .none 0 0] 12 (World.laidAll_os _ _ _) (by kernel_rfl) (by kernel_rfl) (by kernel_rfl) (by kernel_rfl) (by kernel_rfl)
      (laidMet_laidAll _ (by kernel_rfl) (by kernel_rfl)))
    AaD (mu := AM.muP) (muH := AM.muH) A3a (by kernel_rfl) PC
    (fun vs ⟨l, m, hvs, hl, hm⟩ => by subst hvs; exact AM.law_ExecEco A5Z A0t l m hl hm)
theorem Nc : Rows.ExecEcoSaid :=
  OpenClaim.holds_of_wide 6 Tryz.f6 rfl rfl rfl rfl rfl rfl rfl ⟨rfl, rfl, rfl, rfl, rfl⟩ rfl rfl rfl rfl rfl (by kernel_rfl) Tryz.func6 (by kernel_rfl)
    (of_decide_eq_true (by kernel_rfl)) (by unfold Func.isWrapper; first | (rw [if_pos (by decide +kernel)]; kernel_rfl) | (rw [if_neg (by decide +kernel)]; exact ⟨rfl, rfl⟩))
    (fun os started H enc _ => A2s os started H enc)
theorem card_holds : Rows.ExecEcoCardSaid :=
  Claim7.holds_tied_plain_at .later [] [.data] true (true, "a6aaecff86c6cfea12e4e71604c48fba4e8888a4ea58cac2ec27a1dfbafb045d") false
    Nc (fun _ h => by cases h) (by kernel_rfl) (fun _ h => by cases h) execEco_row_tie rfl ⟨rfl, rfl⟩ (by kernel_rfl) rfl
    (fun f fn hf hfn => by
      obtain rfl : f = 6 := Option.some.inj ((show Tryz.prog.funcNamed "withe/withelaw27.ExecEco" = some 6 by kernel_rfl).symm.trans hf) |>.symm
      obtain rfl : fn = Tryz.f6 := (Option.some.inj (Tryz.func6.symm.trans hfn)).symm
      exact ⟨by kernel_rfl, fun j t ht => by
        rw [Tryz.params6] at ht
        have h3 : t = 22 := by
          have h : t ∈ [22, 22] := by
            have := Array.mem_of_getElem? ht
            simpa using this
          simp only [List.mem_cons, List.not_mem_nil, or_false] at h
          rcases h with rfl | rfl <;> simp
        rcases h3 with rfl
        · exact (show Tryz.prog.wantsStandIn 22 = false by kernel_rfl)
        ⟩)
    (by kernel_rfl)
end Go.Proofs.YtpnaenhghnkggaaGreatDoor
