/-
  PROVED: CoheExecCardSaid: whatever bytes and execution come in, withelaw20.CoheExec returns true, and the input reads behind the call as it read before. Conditions: those of the given row (it lists the table math/bits.deBruijn64tab, which the card ties to the program's text); no others.
-/
import Derived.Test.YtpcpldaangchaaaGreatDoorIn
import Derived.Test.YtpcpldaangchaaaGreatDoorSeat
import Derived.Test.YtpcpldaangchaaaGreatDoorCe
import Derived.Test.YtpcpldaangchaaaGreatDoorKG
import Derived.Test.YtpcpldaangchaaaGreatDoorCards
import Derived.Test.YtpcpldaangchaaaGreatDoorTie
namespace Go.Proofs.YtpcpldaangchaaaGreatDoor
open Go Go.Shelf Go.ChangeShapes Go.WideShapes Go.ChangeAt Go.RowKit
set_option linter.unusedVariables false
theorem own : ownKnob Tryz.prog.godebug = none := by kernel_rfl
theorem A82 : Tryz.prog.globalNamed "math/bits.deBruijn64tab" = some (Cb.g 1) := by kernel_rfl
theorem A70 : mA.ext (Cb.f 29) = some AM.ctzX := by
  show (bif Nat.beq (Cb.f 29) (Cb.f 29) then some AM.ctzX else none) = _
  rw [show Nat.beq (Cb.f 29) (Cb.f 29) = true from Nat.beq_refl _]; rfl
abbrev laidL : List (String × DataW Unit) := [("math/bits.deBruijn64tab", Rows.laid_math_bits_deBruijn64tab)]
theorem AgL (W : World) (hL : laidMet Tryz.prog laidL W) : TabAt (Cb.g 1) Lib.deBruijn64tab W :=
  AM.tab_of_laid (n := 64) (t := 267) (e := 5) A82 (by kernel_rfl) (by kernel_rfl) (by kernel_rfl) (by kernel_rfl) (by kernel_rfl) rfl hL
theorem A9P : laidOutB Tryz.prog = true := by kernel_rfl
open AM in
theorem A8Q (Q : VV → Prop) : VP vA A4b [] Q ↔ Q (.b true) := Ae (Cb20.t653 Abj)
open AM in
theorem tkI : EO Tryz.prog 23 fun vs => ∃ l : List Int, vs = M2 l := Aav Tryz.underlying23 Tryz.underlying3 (by kernel_rfl)
open AM in
theorem AdN : HN Tryz.prog 44 fun v => ∃ e : C4, v = vEx e := Aau Tryz.underlying44 rfl rfl rfl rfl rfl rfl rfl (by kernel_rfl) (by kernel_rfl) (by kernel_rfl) tkI (A85 Tryz.underlying42 (by kernel_rfl) tkI)
open AM in
theorem A3j : HN Tryz.prog 22 fun v => ∃ l : List U8, v = lU l ∧ ∀ x ∈ l, x.n < 256 := AdO Tryz.underlying22 Tryz.underlying5 (by kernel_rfl)
open AM in
theorem QU : HN Tryz.prog 5 fun v => ∃ n : Nat, v = .i .u8 (n : Int) ∧ n < 256 := AgM Tryz.underlying5
set_option maxRecDepth 100000 in
open AM in
theorem Aat : Mv Tryz.prog [22, 22, 5, 5, 5, 5, 5, 44] fun vs => ∃ (l m : List U8) (x y z a b : Nat) (e : C4), vs = [lU l, lU m, .i .u8 x, .i .u8 y, .i .u8 z, .i .u8 a, .i .u8 b, vEx e] ∧ (∀ x ∈ l, x.n < 256) ∧ (∀ x ∈ m, x.n < 256) ∧ x < 256 ∧ y < 256 ∧ z < 256 ∧ a < 256 ∧ b < 256 := by
  have A := Cr A3j (Cr A3j (Cr QU (Cr QU (Cr QU (Cr QU (Cr QU (Cr AdN A0Y)))))))
  intro H enc W r base b0 held us ds ps σ ρ J hu hd
  obtain ⟨σ', ρ', ws, vs, h1, h2, h3, h4, _, _, rfl, ⟨l, rfl, hl⟩, _, _, rfl, ⟨m, rfl, hm⟩, _, _, rfl, ⟨x, rfl, hx⟩, _, _, rfl, ⟨y, rfl, hy⟩, _, _, rfl, ⟨z, rfl, hz⟩, _, _, rfl, ⟨a, rfl, ha⟩, _, _, rfl, ⟨b, rfl, hb⟩, _, _, rfl, ⟨e, rfl⟩, rfl⟩ := A H enc W r base b0 held us ds ps σ ρ J hu hd
  exact ⟨σ', ρ', ws, _, h1, h2, h3, h4, l, m, x, y, z, a, b, e, rfl, hl, hm, hx, hy, hz, ha, hb⟩
set_option maxRecDepth 100000 in
theorem Adl (os : Os) (started : os.Started) (H : Type) (enc : TypeId × Value → H) :
    ReturnsInHanded {} Tryz.checked os 4 .any (fun w args => (Rows.coheExecSpec.pre enc Tryz.prog Tryz.f4 [] false w args ∧ laidMet Tryz.prog laidL w) ∧ sizedMet enc Tryz.prog Tryz.f4 (OpenSpec.ofChange Rows.coheExecSpec) false w args)
      (Rows.coheExecSpec.post enc Tryz.prog Tryz.f4 false true false false) :=
  AM.law_row (C := Tryz.checked) (laidL := laidL) (bt := 4) Adj own started (by kernel_rfl) Tryz.func4 rfl rfl Tryz.underlying4
    (fun ds h => by match ds, h with | [d1, d2, d3, d4, d5, d6, d7, d8], _ => exact ⟨rfl, rfl, rfl⟩) A9P
    (fun t ht => by
      have : t = 22 ∨ t = 5 ∨ t = 44 := by
        have h : t ∈ [22, 22, 5, 5, 5, 5, 5, 44] := ht
        simp only [List.mem_cons, List.not_mem_nil, or_false] at h
        rcases h with rfl | rfl | rfl | rfl | rfl | rfl | rfl | rfl <;> simp
      rcases this with rfl | rfl | rfl <;> exact ⟨by kernel_rfl, by decide +kernel⟩)
    (ChangeSpec.witness_at (enc := enc) (C := Tryz.checked) (os := os) (X := fun w _ => laidMet Tryz.prog laidL w) false (World.laidAll Tryz.prog os laidL) #[.slice .none 0 0, .slice .none 0 0, .int .u8 0, .int .u8 0, .int .u8 0, .int .u8 0, .int .u8 0, .agg #[.slice .none 0 0, .slice .none 0 0, .slice .none 0 0]] 12 (World.laidAll_os _ _ _) (by kernel_rfl) (by kernel_rfl) (by kernel_rfl) (by kernel_rfl) (by kernel_rfl)
      (laidMet_laidAll _ (by kernel_rfl) (by kernel_rfl)))
    AgL (mu := AM.muP) (muH := AM.muH) Aat (by kernel_rfl) A70
    (fun vs ⟨l, m, x, y, z, a, b, e, hvs, hl, hm, hx, hy, hz, ha, hb⟩ => by subst hvs; exact AM.law_CoheExec Abj A8Q l m x y z a b e hl hm hx hy hz ha hb)
theorem Rl : Rows.CoheExecSaid :=
  OpenClaim.holds_of_wide 4 Tryz.f4 rfl rfl rfl rfl rfl rfl rfl ⟨rfl, rfl, rfl, rfl, rfl⟩ rfl rfl rfl rfl rfl (by kernel_rfl) Tryz.func4 (by kernel_rfl)
    (of_decide_eq_true (by kernel_rfl)) (by unfold Func.isWrapper; first | (rw [if_pos (by decide +kernel)]; kernel_rfl) | (rw [if_neg (by decide +kernel)]; exact ⟨rfl, rfl⟩))
    (fun os started H enc _ => Adl os started H enc)
theorem card_holds : Rows.CoheExecCardSaid :=
  Claim7.holds_tied_plain_at .later [] [.data] true (true, "30469839904785b377b1e4f3a2e59a93a3b4333f85d6919e1b7a2d82829796d7") false
    Rl (fun _ h => by cases h) (by kernel_rfl) (fun _ h => by cases h) coheExec_row_tie rfl ⟨rfl, rfl⟩ (by kernel_rfl) rfl
    (fun f fn hf hfn => by
      obtain rfl : f = 4 := Option.some.inj ((show Tryz.prog.funcNamed "withe/withelaw20.CoheExec" = some 4 by kernel_rfl).symm.trans hf) |>.symm
      obtain rfl : fn = Tryz.f4 := (Option.some.inj (Tryz.func4.symm.trans hfn)).symm
      exact ⟨by kernel_rfl, fun j t ht => by
        rw [Tryz.params4] at ht
        have h3 : t = 22 ∨ t = 5 ∨ t = 44 := by
          have h : t ∈ [22, 22, 5, 5, 5, 5, 5, 44] := by
            have := Array.mem_of_getElem? ht
            simpa using this
          simp only [List.mem_cons, List.not_mem_nil, or_false] at h
          rcases h with rfl | rfl | rfl | rfl | rfl | rfl | rfl | rfl <;> simp
        rcases h3 with rfl | rfl | rfl
        · exact (show Tryz.prog.wantsStandIn 22 = false by kernel_rfl)
        · exact (show Tryz.prog.wantsStandIn 5 = false by kernel_rfl)
        · exact (show Tryz.prog.wantsStandIn 44 = false by kernel_rfl)⟩)
    (by kernel_rfl)
end Go.Proofs.YtpcpldaangchaaaGreatDoor
