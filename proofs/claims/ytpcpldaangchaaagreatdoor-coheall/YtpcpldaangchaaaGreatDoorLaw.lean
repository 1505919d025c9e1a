/-
  PROVED: CoheAllCardSaid: whatever bytes, numbers and nodes come in, withelaw20.CoheAll returns true, and the input reads behind the call as it read before. Conditions: those of the given row (it lists the table math/bits.deBruijn64tab, which the card ties to the program's text); no others.
-/
import Derived.Test.YtpcpldaangchaaaGreatDoorIn
import Derived.Test.YtpcpldaangchaaaGreatDoorSeat
import Derived.Test.YtpcpldaangchaaaGreatDoorCe
import Derived.Test.YtpcpldaangchaaaGreatDoorKE
import Derived.Test.YtpcpldaangchaaaGreatDoorCards
import Derived.Test.YtpcpldaangchaaaGreatDoorTie
namespace Go.Proofs.YtpcpldaangchaaaGreatDoor
open Go Go.Shelf Go.ChangeShapes Go.WideShapes Go.ChangeAt Go.RowKit
set_option linter.unusedVariables false
theorem own : ownKnob Tryz.prog.godebug = none := by kernel_rfl
theorem A58 : Tryz.prog.globalNamed "math/bits.deBruijn64tab" = some (Co.g 1) := by kernel_rfl
theorem A6R : mA.ext (Co.f 29) = some AM.ctzX := by
  show (bif Nat.beq (Co.f 29) (Co.f 29) then some AM.ctzX else none) = _
  rw [show Nat.beq (Co.f 29) (Co.f 29) = true from Nat.beq_refl _]; rfl
abbrev laidL : List (String × DataW Unit) := [("math/bits.deBruijn64tab", Rows.laid_math_bits_deBruijn64tab)]
theorem AfL (W : World) (hL : laidMet Tryz.prog laidL W) : TabAt (Co.g 1) Lib.deBruijn64tab W :=
  AM.tab_of_laid (n := 64) (t := 267) (e := 5) A58 (by kernel_rfl) (by kernel_rfl) (by kernel_rfl) (by kernel_rfl) (by kernel_rfl) rfl hL
theorem A8L : laidOutB Tryz.prog = true := by kernel_rfl
open AM in
theorem A9o (Q : VV → Prop) : VP vA A3A [] Q ↔ Q (.b true) := Ab (Cb20.t653 AaT)
open AM in
theorem tkI : GX Tryz.prog 23 fun vs => ∃ l : List Int, vs = GZ l := A9W Tryz.underlying23 Tryz.underlying3 (by kernel_rfl)
open AM in
theorem A5f : Gl Tryz.prog 25 fun v => ∃ n : Ay, v = vN n := A8n Tryz.underlying25 rfl rfl rfl Tryz.underlying3 Tryz.underlying4 (by kernel_rfl) (by kernel_rfl) (by kernel_rfl) (by kernel_rfl) tkI
open AM in
theorem A2l : Gl Tryz.prog 22 fun v => ∃ l : List U8, v = lU l ∧ ∀ x ∈ l, x.n < 256 := Ab8 Tryz.underlying22 Tryz.underlying5 (by kernel_rfl)
open AM in
theorem A19 : Gl Tryz.prog 5 fun v => ∃ n : Nat, v = .i .u8 (n : Int) ∧ n < 256 := AfZ Tryz.underlying5
set_option maxRecDepth 100000 in
open AM in
theorem A9G : Nw Tryz.prog [22, 22, 5, 5, 5, 25, 25, 3, 3] fun vs => ∃ (l m : List U8) (x y z : Nat) (a b : Ay) (p q : Int), vs = [lU l, lU m, .i .u8 x, .i .u8 y, .i .u8 z, vN a, vN b, .i .i64 p, .i .i64 q] ∧ (∀ x ∈ l, x.n < 256) ∧ (∀ x ∈ m, x.n < 256) ∧ x < 256 ∧ y < 256 ∧ z < 256 := by
  have I := Abh Tryz.underlying3
  have A := Ci A2l (Ci A2l (Ci A19 (Ci A19 (Ci A19 (Ci A5f (Ci A5f (Ci I (Ci I ZU))))))))
  intro H enc W r base b0 held us ds ps σ ρ J hu hd
  obtain ⟨σ', ρ', ws, vs, h1, h2, h3, h4, _, _, rfl, ⟨l, rfl, hl⟩, _, _, rfl, ⟨m, rfl, hm⟩, _, _, rfl, ⟨x, rfl, hx⟩, _, _, rfl, ⟨y, rfl, hy⟩, _, _, rfl, ⟨z, rfl, hz⟩, _, _, rfl, ⟨a, rfl⟩, _, _, rfl, ⟨b, rfl⟩, _, _, rfl, ⟨p, rfl, _⟩, _, _, rfl, ⟨q, rfl, _⟩, rfl⟩ := A H enc W r base b0 held us ds ps σ ρ J hu hd
  exact ⟨σ', ρ', ws, _, h1, h2, h3, h4, l, m, x, y, z, a, b, p, q, rfl, hl, hm, hx, hy, hz⟩
set_option maxRecDepth 100000 in
theorem AbE (os : Os) (started : os.Started) (H : Type) (enc : TypeId × Value → H) :
    ReturnsInHanded {} Tryz.checked os 3 .any (fun w args => (Rows.coheAllSpec.pre enc Tryz.prog Tryz.f3 [] false w args ∧ laidMet Tryz.prog laidL w) ∧ sizedMet enc Tryz.prog Tryz.f3 (OpenSpec.ofChange Rows.coheAllSpec) false w args)
      (Rows.coheAllSpec.post enc Tryz.prog Tryz.f3 false true false false) :=
  AM.law_row (C := Tryz.checked) (laidL := laidL) (bt := 4) Adj own started (by kernel_rfl) Tryz.func3 rfl rfl Tryz.underlying4
    (fun ds h => by match ds, h with | [d1, d2, d3, d4, d5, d6, d7, d8, d9], _ => exact ⟨rfl, rfl, rfl⟩) A8L
    (fun t ht => by
      have : t = 22 ∨ t = 5 ∨ t = 25 ∨ t = 3 := by
        have h : t ∈ [22, 22, 5, 5, 5, 25, 25, 3, 3] := ht
        simp only [List.mem_cons, List.not_mem_nil, or_false] at h
        rcases h with rfl | rfl | rfl | rfl | rfl | rfl | rfl | rfl | rfl <;> simp
      rcases this with rfl | rfl | rfl | rfl <;> exact ⟨by kernel_rfl, by decide +kernel⟩)
    (ChangeSpec.witness_at (enc := enc) (C := Tryz.checked) (os := os) (X := fun w _ => laidMet Tryz.prog laidL w) false (World.laidAll Tryz.prog os laidL) #[.slice .none 0 0, .slice .none 0 0, .int .u8 0, .int .u8 0, .int .u8 0, .agg #[.int .i64 0, .int .i64 0, .int .i64 0, .int .i64 0, .int .i64 0, .int .i64 0, .bool false, .bool false, .slice .none 0 0], .agg #[.int .i64 0, .int .i64 0, .int .i64 0, .int .i64 0, .int .i64 0, .int .i64 0, .bool false, .bool false, .slice .none 0 0], .int .i64 0, .int .i64 0] 12 (World.laidAll_os _ _ _) (by kernel_rfl) (by kernel_rfl) (by kernel_rfl) (by kernel_rfl) (by kernel_rfl)
      (laidMet_laidAll _ (by kernel_rfl) (by kernel_rfl)))
    AfL (mu := AM.muP) (muH := AM.muH) A9G (by kernel_rfl) A6R
    (fun vs ⟨l, m, x, y, z, a, b, p, q, hvs, hl, hm, hx, hy, hz⟩ => by subst hvs; exact AM.law_CoheAll AaT A9o l m hl hm x y z hx hy hz a b p q)
theorem Rp : Rows.CoheAllSaid :=
  OpenClaim.holds_of_wide 3 Tryz.f3 rfl rfl rfl rfl rfl rfl rfl ⟨rfl, rfl, rfl, rfl, rfl⟩ rfl rfl rfl rfl rfl (by kernel_rfl) Tryz.func3 (by kernel_rfl)
    (of_decide_eq_true (by kernel_rfl)) (by unfold Func.isWrapper; first | (rw [if_pos (by decide +kernel)]; kernel_rfl) | (rw [if_neg (by decide +kernel)]; exact ⟨rfl, rfl⟩))
    (fun os started H enc _ => AbE os started H enc)
theorem card_holds : Rows.CoheAllCardSaid :=
  Claim7.holds_tied_plain_at .later [] [.data] true (true, "30469839904785b377b1e4f3a2e59a93a3b4333f85d6919e1b7a2d82829796d7") false
    Rp (fun _ h => by cases h) (by kernel_rfl) (fun _ h => by cases h) coheAll_row_tie rfl ⟨rfl, rfl⟩ (by kernel_rfl) rfl
    (fun f fn hf hfn => by
      obtain rfl : f = 3 := Option.some.inj ((show Tryz.prog.funcNamed "withe/withelaw20.CoheAll" = some 3 by kernel_rfl).symm.trans hf) |>.symm
      obtain rfl : fn = Tryz.f3 := (Option.some.inj (Tryz.func3.symm.trans hfn)).symm
      exact ⟨by kernel_rfl, fun j t ht => by
        rw [Tryz.params3] at ht
        have h3 : t = 22 ∨ t = 5 ∨ t = 25 ∨ t = 3 := by
          have h : t ∈ [22, 22, 5, 5, 5, 25, 25, 3, 3] := by
            have := Array.mem_of_getElem? ht
            simpa using this
          simp only [List.mem_cons, List.not_mem_nil, or_false] at h
          rcases h with rfl | rfl | rfl | rfl | rfl | rfl | rfl | rfl | rfl <;> simp
        rcases h3 with rfl | rfl | rfl | rfl
        · exact (show Tryz.prog.wantsStandIn 22 = false by kernel_rfl)
        · exact (show Tryz.prog.wantsStandIn 5 = false by kernel_rfl)
        · exact (show Tryz.prog.wantsStandIn 25 = false by kernel_rfl)
        · exact (show Tryz.prog.wantsStandIn 3 = false by kernel_rfl)⟩)
    (by kernel_rfl)
end Go.Proofs.YtpcpldaangchaaaGreatDoor
