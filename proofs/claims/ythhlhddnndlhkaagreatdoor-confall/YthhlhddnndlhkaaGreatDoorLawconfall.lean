/-
  PROVED: ConfAllCardSaid: whatever bytes, bool and shape come in, withelaw26.ConfAll returns true, and the input reads behind the call as it read before. Conditions: those of the given row (it lists the table math/bits.deBruijn64tab, which the card ties to the program's text); no others.
-/
import Derived.Test.YthhlhddnndlhkaaGreatDoorIne
import Derived.Test.YthhlhddnndlhkaaGreatDoorSeate
import Derived.Test.YthhlhddnndlhkaaGreatDoorCee
import Derived.Test.YthhlhddnndlhkaaGreatDoorKYe
import Derived.Test.YthhlhddnndlhkaaGreatDoorCards
import Derived.Test.YthhlhddnndlhkaaGreatDoorTie
namespace Go.Proofs.YthhlhddnndlhkaaGreatDoor
open Go Go.Shelf Go.ChangeShapes Go.WideShapes Go.ChangeAt Go.RowKit
set_option linter.unusedVariables false
theorem own : ownKnob Tryz.prog.godebug = none := by kernel_rfl
theorem BE : Tryz.prog.globalNamed "math/bits.deBruijn64tab" = some (Ac.g 1) := by kernel_rfl
theorem BB : mA.ext (Ac.f 29) = some AM.ctzX := by
  show (bif Nat.beq (Ac.f 29) (Ac.f 29) then some AM.ctzX else none) = _
  rw [show Nat.beq (Ac.f 29) (Ac.f 29) = true from Nat.beq_refl _]; rfl
abbrev laidL : List (String × DataW Unit) := [("math/bits.deBruijn64tab", Rows.laid_math_bits_deBruijn64tab)]
theorem E4 (W : World) (hL : laidMet Tryz.prog laidL W) : TabAt (Ac.g 1) Lib.deBruijn64tab W :=
  AM.tab_of_laid (n := 64) (t := 238) (e := 5) BE (by kernel_rfl) (by kernel_rfl) (by kernel_rfl) (by kernel_rfl) (by kernel_rfl) rfl hL
theorem C9 : laidOutB Tryz.prog = true := by kernel_rfl
open AM in
theorem CR (Q : VV → Prop) : VP vA JU [] Q ↔ Q (.b true) := Ae (Cee.t1089 DK)
open AM in
theorem tkI : EN Tryz.prog 31 fun vs => ∃ l : List Int, vs = Hv l := AlY Tryz.underlying31 Tryz.underlying3 (by kernel_rfl)
open AM in
theorem AsP : EN Tryz.prog 32 fun vs => ∃ l : List (List (List Int)), vs = [.ls (l.map DD)] := Ait Tryz.underlying32 (by kernel_rfl) (Ais Tryz.underlying57 (by kernel_rfl) tkI)
open AM in
theorem AlX : Cl Tryz.prog 34 fun v => ∃ s : A6, v = Dy s := Aiu Tryz.underlying34 rfl rfl rfl rfl rfl rfl rfl (by kernel_rfl) (by kernel_rfl) (by kernel_rfl) tkI AsP
open AM in
theorem B7 : Cl Tryz.prog 22 fun v => ∃ l : List U8, v = lU l ∧ ∀ x ∈ l, x.n < 256 := HB Tryz.underlying22 Tryz.underlying5 (by kernel_rfl)
open AM in
theorem A2f : Cl Tryz.prog 4 fun v => ∃ b : Bool, v = .b b := A7K Tryz.underlying4
set_option maxRecDepth 100000 in
open AM in
theorem CU : DS Tryz.prog [22, 22, 4, 34] fun vs => ∃ (l : List U8) (m : List U8) (right : Bool) (s : A6), vs = [lU l, lU m, .b right, Dy s] ∧ (∀ x ∈ l, x.n < 256) ∧ (∀ x ∈ m, x.n < 256) := by
  have A := AD B7 (AD B7 (AD A2f (AD AlX CF)))
  intro H enc W r base b0 held us ds ps σ ρ J hu hd
  obtain ⟨σ', ρ', ws, vs, h1, h2, h3, h4, _, _, rfl, ⟨l, rfl, hl⟩, _, _, rfl, ⟨m, rfl, hm⟩, _, _, rfl, ⟨right, rfl⟩, _, _, rfl, ⟨s, rfl⟩, rfl⟩ := A H enc W r base b0 held us ds ps σ ρ J hu hd
  exact ⟨σ', ρ', ws, _, h1, h2, h3, h4, l, m, right, s, rfl, hl, hm⟩
set_option maxRecDepth 100000 in
theorem CS (os : Os) (started : os.Started) (H : Type) (enc : TypeId × Value → H) :
    ReturnsInHanded {} Tryz.checked os 7 .any (fun w args => (Rows.confAllSpec.pre enc Tryz.prog Tryz.f7 [] false w args ∧ laidMet Tryz.prog laidL w) ∧ sizedMet enc Tryz.prog Tryz.f7 (OpenSpec.ofChange Rows.confAllSpec) false w args)
      (Rows.confAllSpec.post enc Tryz.prog Tryz.f7 false true false false) :=
  AM.law_row (C := Tryz.checked) (laidL := laidL) (bt := 4) Hx own started (by kernel_rfl) Tryz.func7 rfl rfl Tryz.underlying4
    (fun ds h => by match ds, h with | [d1, d2, d3, d4], _ => exact ⟨rfl, rfl, rfl⟩) C9
    (fun t ht => by
      have : t = 22 ∨ t = 4 ∨ t = 34 := by
        have h : t ∈ [22, 22, 4, 34] := ht
        simp only [List.mem_cons, List.not_mem_nil, or_false] at h
        rcases h with rfl | rfl | rfl | rfl <;> simp
      rcases this with rfl | rfl | rfl <;> exact ⟨by kernel_rfl, by decide +kernel⟩)
    (ChangeSpec.witness_at (enc := enc) (C := Tryz.checked) (os := os) (X := fun w _ => laidMet Tryz.prog laidL w) false (World.laidAll Tryz.prog os laidL) #[.slice .none 0 0, .slice .none 0 0, .bool false, .agg #[.slice .none 0 0, .slice .none 0 0, .slice .none 0 0]] 12 (World.laidAll_os _ _ _) (by kernel_rfl) (by kernel_rfl) (by kernel_rfl) (by kernel_rfl) (by kernel_rfl)
      (laidMet_laidAll _ (by kernel_rfl) (by kernel_rfl)))
    E4 (mu := AM.muP) (muH := AM.muH) CU (by kernel_rfl) BB
    (fun vs ⟨l, m, right, s, hvs, hl, hm⟩ => by subst hvs; exact AM.law_ConfAll DK CR l m right s hl hm)
theorem Er : Rows.ConfAllSaid :=
  OpenClaim.holds_of_wide 7 Tryz.f7 rfl rfl rfl rfl rfl rfl rfl ⟨rfl, rfl, rfl, rfl, rfl⟩ rfl rfl rfl rfl rfl (by kernel_rfl) Tryz.func7 (by kernel_rfl)
    (of_decide_eq_true (by kernel_rfl)) (by unfold Func.isWrapper; first | (rw [if_pos (by decide +kernel)]; kernel_rfl) | (rw [if_neg (by decide +kernel)]; exact ⟨rfl, rfl⟩))
    (fun os started H enc _ => CS os started H enc)
theorem card_holds : Rows.ConfAllCardSaid :=
  Claim7.holds_tied_plain_at .later [] [.data] true (true, "e372923a3d3fb7fd601ab84095fdebd2187f0ea3bee297c6af33f92abd7b6d57") false
    Er (fun _ h => by cases h) (by kernel_rfl) (fun _ h => by cases h) confAll_row_tie rfl ⟨rfl, rfl⟩ (by kernel_rfl) rfl
    (fun f fn hf hfn => by
      obtain rfl : f = 7 := Option.some.inj ((show Tryz.prog.funcNamed "withe/withelaw26.ConfAll" = some 7 by kernel_rfl).symm.trans hf) |>.symm
      obtain rfl : fn = Tryz.f7 := (Option.some.inj (Tryz.func7.symm.trans hfn)).symm
      exact ⟨by kernel_rfl, fun j t ht => by
        rw [Tryz.params7] at ht
        have h3 : t = 22 ∨ t = 4 ∨ t = 34 := by
          have h : t ∈ [22, 22, 4, 34] := by
            have := Array.mem_of_getElem? ht
            simpa using this
          simp only [List.mem_cons, List.not_mem_nil, or_false] at h
          rcases h with rfl | rfl | rfl | rfl <;> simp
        rcases h3 with rfl | rfl | rfl
        · exact (show Tryz.prog.wantsStandIn 22 = false by kernel_rfl)
        · exact (show Tryz.prog.wantsStandIn 4 = false by kernel_rfl)
        · exact (show Tryz.prog.wantsStandIn 34 = false by kernel_rfl)
        ⟩)
    (by kernel_rfl)
end Go.Proofs.YthhlhddnndlhkaaGreatDoor
