/-
  PROVED: SeenNoneCardSaid: whatever bytes, structure and number come in, withelaw19.SeenNone returns true, and the input reads behind the call as it read before. Conditions: those of the given row (it lists the table math/bits.deBruijn64tab, which the card ties to the program's text); no others.
-/
import Derived.Test.YtpcpldaangchaaaGreatDoorIn
import Derived.Test.YtpcpldaangchaaaGreatDoorSeat
import Derived.Test.YtpcpldaangchaaaGreatDoorCe
import Derived.Test.YtpcpldaangchaaaGreatDoorKC
import Derived.Test.YtpcpldaangchaaaGreatDoorCards
import Derived.Test.YtpcpldaangchaaaGreatDoorTie
namespace Go.Proofs.YtpcpldaangchaaaGreatDoor
open Go Go.Shelf Go.ChangeShapes Go.WideShapes Go.ChangeAt Go.RowKit
set_option linter.unusedVariables false
theorem own : ownKnob Tryz.prog.godebug = none := by kernel_rfl
theorem tabNamed : Tryz.prog.globalNamed "math/bits.deBruijn64tab" = some (laysTz_ren.g 1) := by kernel_rfl
theorem mach_ext : mA.ext (laysTz_ren.f 29) = some AM.ctzX := by
  show (bif Nat.beq (laysTz_ren.f 29) (laysTz_ren.f 29) then some AM.ctzX else none) = _
  rw [show Nat.beq (laysTz_ren.f 29) (laysTz_ren.f 29) = true from Nat.beq_refl _]; rfl
abbrev laidL : List (String × DataW Unit) := [("math/bits.deBruijn64tab", Rows.laid_math_bits_deBruijn64tab)]
theorem tabIn (W : World) (hL : laidMet Tryz.prog laidL W) : TabAt (laysTz_ren.g 1) Lib.deBruijn64tab W :=
  AM.tab_of_laid (n := 64) (t := 267) (e := 5) tabNamed (by kernel_rfl) (by kernel_rfl) (by kernel_rfl) (by kernel_rfl) (by kernel_rfl) rfl hL
theorem laidOut : laidOutB Tryz.prog = true := by kernel_rfl
open AM in
theorem begun19 (Q : VV → Prop) : VP vA n_z3 [] Q ↔ Q (.b true) := VP_eq (Cb19.t1692 vcode)
open AM in
theorem tkI : Takes Tryz.prog 23 fun vs => ∃ l : List Int, vs = eLI l := tk_ints Tryz.underlying23 Tryz.underlying3 (by kernel_rfl)
open AM in
theorem tkIII : Takes Tryz.prog 34 fun vs => ∃ l : List (List (List Int)), vs = [.ls (l.map eLLI)] := tk_ints3 Tryz.underlying34 (by kernel_rfl) (tk_ints2 Tryz.underlying42 (by kernel_rfl) tkI)
open AM in
theorem tkShape : TakesA Tryz.prog 36 fun v => ∃ s : Shape, v = vSh s := tk_shape Tryz.underlying36 rfl rfl rfl rfl rfl rfl rfl (by kernel_rfl) (by kernel_rfl) (by kernel_rfl) tkI tkIII
open AM in
theorem tkBytes : TakesA Tryz.prog 22 fun v => ∃ l : List U8, v = lU l ∧ ∀ x ∈ l, x.n < 256 := tk_u8s Tryz.underlying22 Tryz.underlying5 (by kernel_rfl)
set_option maxRecDepth 100000 in
open AM in
theorem takesSN : TakesL Tryz.prog [22, 36, 3] fun vs => ∃ (l : List U8) (s : Shape) (e : Int), vs = [lU l, vSh s, .i .i64 e] ∧ ∀ x ∈ l, x.n < 256 := by
  have A := takesL_cons tkBytes (takesL_cons tkShape (takesL_cons (tk_int Tryz.underlying3) takesL_nil))
  intro H enc W r base b0 held us ds ps σ ρ I hu hd
  obtain ⟨σ', ρ', ws, vs, h1, h2, h3, h4, _, _, rfl, ⟨l, rfl, hl⟩, _, _, rfl, ⟨s, rfl⟩, _, _, rfl, ⟨e, rfl, _⟩, rfl⟩ := A H enc W r base b0 held us ds ps σ ρ I hu hd
  exact ⟨σ', ρ', ws, _, h1, h2, h3, h4, l, s, e, rfl, hl⟩
set_option maxRecDepth 100000 in
theorem lifted (os : Os) (started : os.Started) (H : Type) (enc : TypeId × Value → H) :
    ReturnsInHanded {} Tryz.checked os 7 .any (fun w args => (Rows.seenNoneSpec.pre enc Tryz.prog Tryz.f7 [] false w args ∧ laidMet Tryz.prog laidL w) ∧ sizedMet enc Tryz.prog Tryz.f7 (OpenSpec.ofChange Rows.seenNoneSpec) false w args)
      (Rows.seenNoneSpec.post enc Tryz.prog Tryz.f7 false true false false) :=
  AM.law_row (C := Tryz.checked) (laidL := laidL) (bt := 4) laysTz own started (by kernel_rfl) Tryz.func7 rfl rfl Tryz.underlying4
    (fun ds h => by match ds, h with | [d1, d2, d3], _ => exact ⟨rfl, rfl, rfl⟩) laidOut
    (fun t ht => by
      have : t = 22 ∨ t = 36 ∨ t = 3 := by simpa using (show t ∈ [22, 36, 3] from ht)
      rcases this with rfl | rfl | rfl <;> exact ⟨by kernel_rfl, by decide +kernel⟩)
    (ChangeSpec.witness_at (enc := enc) (C := Tryz.checked) (os := os) (X := fun w _ => laidMet Tryz.prog laidL w) false (World.laidAll Tryz.prog os laidL) #[.slice .none 0 0, .agg #[.slice .none 0 0, .slice .none 0 0, .slice .none 0 0], .int .i64 0] 8 (World.laidAll_os _ _ _) (by kernel_rfl) (by kernel_rfl) (by kernel_rfl) (by kernel_rfl) (by kernel_rfl)
      (laidMet_laidAll _ (by kernel_rfl) (by kernel_rfl)))
    tabIn (mu := AM.muP) (muH := AM.muH) takesSN (by kernel_rfl) mach_ext
    (fun vs ⟨l, s, e, hvs, hl⟩ => by subst hvs; exact AM.law_SeenNone vcode begun19 l hl s e)
theorem over : Rows.SeenNoneSaid :=
  OpenClaim.holds_of_wide 7 Tryz.f7 rfl rfl rfl rfl rfl rfl rfl ⟨rfl, rfl, rfl, rfl, rfl⟩ rfl rfl rfl rfl rfl (by kernel_rfl) Tryz.func7 (by kernel_rfl)
    (of_decide_eq_true (by kernel_rfl)) (by unfold Func.isWrapper; first | (rw [if_pos (by decide +kernel)]; kernel_rfl) | (rw [if_neg (by decide +kernel)]; exact ⟨rfl, rfl⟩))
    (fun os started H enc _ => lifted os started H enc)
theorem card_holds : Rows.SeenNoneCardSaid :=
  Claim7.holds_tied_plain_at .later [] [.data] true (true, "30469839904785b377b1e4f3a2e59a93a3b4333f85d6919e1b7a2d82829796d7") false
    over (fun _ h => by cases h) (by kernel_rfl) (fun _ h => by cases h) seenNone_row_tie rfl ⟨rfl, rfl⟩ (by kernel_rfl) rfl
    (fun f fn hf hfn => by
      obtain rfl : f = 7 := Option.some.inj ((show Tryz.prog.funcNamed "withe/withelaw19.SeenNone" = some 7 by kernel_rfl).symm.trans hf) |>.symm
      obtain rfl : fn = Tryz.f7 := (Option.some.inj (Tryz.func7.symm.trans hfn)).symm
      exact ⟨by kernel_rfl, fun j t ht => by
        rw [Tryz.params7] at ht
        have h3 : t = 22 ∨ t = 36 ∨ t = 3 := by
          rcases j with _ | _ | _ | j
          · exact .inl (by simpa using ht.symm)
          · exact .inr (.inl (by simpa using ht.symm))
          · exact .inr (.inr (by simpa using ht.symm))
          · simp at ht
        rcases h3 with rfl | rfl | rfl
        · exact (show Tryz.prog.wantsStandIn 22 = false by kernel_rfl)
        · exact (show Tryz.prog.wantsStandIn 36 = false by kernel_rfl)
        · exact (show Tryz.prog.wantsStandIn 3 = false by kernel_rfl)⟩)
    (by kernel_rfl)
end Go.Proofs.YtpcpldaangchaaaGreatDoor
