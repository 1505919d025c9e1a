/-
  PROVED: ExecAllCardSaid: whatever bytes come in, withelaw27.ExecAll returns true, and the input reads behind the call as it read before. Conditions: those of the given row (it lists the table math/bits.deBruijn64tab, which the card ties to the program's text); no others.
-/
import Derived.Test.YtpnaenhghnkggaaGreatDoorIn
import Derived.Test.YtpnaenhghnkggaaGreatDoorSeat
import Derived.Test.YtpnaenhghnkggaaGreatDoorCe
import Derived.Test.YtpnaenhghnkggaaGreatDoorKR
import Derived.Test.YtpnaenhghnkggaaGreatDoorCards
import Derived.Test.YtpnaenhghnkggaaGreatDoorTie
namespace Go.Proofs.YtpnaenhghnkggaaGreatDoor
open Go Go.Shelf Go.ChangeShapes Go.WideShapes Go.ChangeAt Go.RowKit
set_option linter.unusedVariables false
theorem own : ownKnob Tryz.prog.godebug = none := by kernel_rfl
theorem Aez : Tryz.prog.globalNamed "math/bits.deBruijn64tab" = some (CF.g 1) := by kernel_rfl
theorem Ade : mA.ext (CF.f 29) = some AM.ctzX := by
  show (bif Nat.beq (CF.f 29) (CF.f 29) then some AM.ctzX else none) = _
  rw [show Nat.beq (CF.f 29) (CF.f 29) = true from Nat.beq_refl _]; rfl
abbrev laidL : List (String × DataW Unit) := [("math/bits.deBruijn64tab", Rows.laid_math_bits_deBruijn64tab)]
theorem ApL (W : World) (hL : laidMet Tryz.prog laidL W) : TabAt (CF.g 1) Lib.deBruijn64tab W :=
  AM.tab_of_laid (n := 64) (t := 238) (e := 5) Aez (by kernel_rfl) (by kernel_rfl) (by kernel_rfl) (by kernel_rfl) (by kernel_rfl) rfl hL
theorem Ahg : laidOutB Tryz.prog = true := by kernel_rfl
open AM in
theorem Ajy (Q : VV → Prop) : VP vA Aa1 [] Q ↔ Q (.b true) := Af (Cex2.t988 Aj6)
open AM in
theorem A8O : MV Tryz.prog 22 fun v => ∃ l : List U8, v = lU l ∧ ∀ x ∈ l, x.n < 256 := Amf Tryz.underlying22 Tryz.underlying5 (by kernel_rfl)
open AM in
theorem S5 : MV Tryz.prog 5 fun v => ∃ n : Nat, v = .i .u8 (n : Int) ∧ n < 256 := ApM Tryz.underlying5
set_option maxRecDepth 100000 in
open AM in
theorem Ame : MW Tryz.prog [22, 22, 5, 5, 5, 5, 5] fun vs => ∃ (l : List U8) (m : List U8) (x : Nat) (y : Nat) (z : Nat) (u : Nat) (v : Nat), vs = [lU l, lU m, .i .u8 x, .i .u8 y, .i .u8 z, .i .u8 u, .i .u8 v] ∧ (∀ x ∈ l, x.n < 256) ∧ (∀ x ∈ m, x.n < 256) ∧ x < 256 ∧ y < 256 ∧ z < 256 ∧ u < 256 ∧ v < 256 := by
  have A := Dv A8O (Dv A8O (Dv S5 (Dv S5 (Dv S5 (Dv S5 (Dv S5 A5F))))))
  intro H enc W r base b0 held us ds ps σ ρ J hu hd
  obtain ⟨σ', ρ', ws, vs, h1, h2, h3, h4, _, _, rfl, ⟨l, rfl, hl⟩, _, _, rfl, ⟨m, rfl, hm⟩, _, _, rfl, ⟨x, rfl, hx⟩, _, _, rfl, ⟨y, rfl, hy⟩, _, _, rfl, ⟨z, rfl, hz⟩, _, _, rfl, ⟨u, rfl, hu⟩, _, _, rfl, ⟨v, rfl, hv⟩, rfl⟩ := A H enc W r base b0 held us ds ps σ ρ J hu hd
  exact ⟨σ', ρ', ws, _, h1, h2, h3, h4, l, m, x, y, z, u, v, rfl, hl, hm, hx, hy, hz, hu, hv⟩
set_option maxRecDepth 100000 in
theorem Alx (os : Os) (started : os.Started) (H : Type) (enc : TypeId × Value → H) :
    ReturnsInHanded {} Tryz.checked os 3 .any (fun w args => (Rows.execAllSpec.pre enc Tryz.prog Tryz.f3 [] false w args ∧ laidMet Tryz.prog laidL w) ∧ sizedMet enc Tryz.prog Tryz.f3 (OpenSpec.ofChange Rows.execAllSpec) false w args)
      (Rows.execAllSpec.post enc Tryz.prog Tryz.f3 false true false false) :=
  AM.law_row (C := Tryz.checked) (laidL := laidL) (bt := 4) Alv own started (by kernel_rfl) Tryz.func3 rfl rfl Tryz.underlying4
    (fun ds h => by match ds, h with | [d1, d2, d3, d4, d5, d6, d7], _ => exact ⟨rfl, rfl, rfl⟩) Ahg
    (fun t ht => by
      have : t = 22 ∨ t = 5 := by
        have h : t ∈ [22, 22, 5, 5, 5, 5, 5] := ht
        simp only [List.mem_cons, List.not_mem_nil, or_false] at h
        rcases h with rfl | rfl | rfl | rfl | rfl | rfl | rfl <;> simp
      rcases this with rfl | rfl <;> exact ⟨by kernel_rfl, by decide +kernel⟩)
    (ChangeSpec.witness_at (enc := enc) (C := Tryz.checked) (os := os) (X := fun w _ => laidMet Tryz.prog laidL w) false (World.laidAll Tryz.prog os laidL) #[.slice .none 0 0, .slice .none 0 0, .int .u8 0, .int .u8 0, .int .u8 0, .int .u8 0, .int .u8 0] 12 (World.laidAll_os _ _ _) (by kernel_rfl) (by kernel_rfl) (by kernel_rfl) (by kernel_rfl) (by kernel_rfl)
      (laidMet_laidAll _ (by kernel_rfl) (by kernel_rfl)))
    ApL (mu := AM.muP) (muH := AM.muH) Ame (by kernel_rfl) Ade
    (fun vs ⟨l, m, x, y, z, u, v, hvs, hl, hm, hx, hy, hz, hu, hv⟩ => by subst hvs; exact AM.law_ExecAll Aj6 Ajy l m x y z u v hl hm hx hy hz hu hv)
theorem SD : Rows.ExecAllSaid :=
  OpenClaim.holds_of_wide 3 Tryz.f3 rfl rfl rfl rfl rfl rfl rfl ⟨rfl, rfl, rfl, rfl, rfl⟩ rfl rfl rfl rfl rfl (by kernel_rfl) Tryz.func3 (by kernel_rfl)
    (of_decide_eq_true (by kernel_rfl)) (by unfold Func.isWrapper; first | (rw [if_pos (by decide +kernel)]; kernel_rfl) | (rw [if_neg (by decide +kernel)]; exact ⟨rfl, rfl⟩))
    (fun os started H enc _ => Alx os started H enc)
theorem card_holds : Rows.ExecAllCardSaid :=
  Claim7.holds_tied_plain_at .later [] [.data] true (true, "a6aaecff86c6cfea12e4e71604c48fba4e8888a4ea58cac2ec27a1dfbafb045d") false
    SD (fun _ h => by cases h) (by kernel_rfl) (fun _ h => by cases h) execAll_row_tie rfl ⟨rfl, rfl⟩ (by kernel_rfl) rfl
    (fun f fn hf hfn => by
      obtain rfl : f = 3 := Option.some.inj ((show Tryz.prog.funcNamed "withe/withelaw27.ExecAll" = some 3 by kernel_rfl).symm.trans hf) |>.symm
      obtain rfl : fn = Tryz.f3 := (Option.some.inj (Tryz.func3.symm.trans hfn)).symm
      exact ⟨by kernel_rfl, fun j t ht => by
        rw [Tryz.params3] at ht
        have h3 : t = 22 ∨ t = 5 := by
          have h : t ∈ [22, 22, 5, 5, 5, 5, 5] := by
            have := Array.mem_of_getElem? ht
            simpa using this
          simp only [List.mem_cons, List.not_mem_nil, or_false] at h
          rcases h with rfl | rfl | rfl | rfl | rfl | rfl | rfl <;> simp
        rcases h3 with rfl | rfl
        · exact (show Tryz.prog.wantsStandIn 22 = false by kernel_rfl)
        · exact (show Tryz.prog.wantsStandIn 5 = false by kernel_rfl)
        ⟩)
    (by kernel_rfl)
end Go.Proofs.YtpnaenhghnkggaaGreatDoor
