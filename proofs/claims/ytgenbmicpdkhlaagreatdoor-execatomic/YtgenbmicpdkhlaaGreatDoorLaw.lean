/-
  PROVED: ExecAtomicCardSaid: whatever two numbers of the kind uint8 come in, withelaw27.ExecAtomic returns true and leaves what was there as it was. Conditions: those of the given row (it lists the table math/bits.deBruijn64tab, which the card ties to the program's text); no others.
-/
import Derived.Test.YtgenbmicpdkhlaaGreatDoorAmF
import Derived.Test.YtgenbmicpdkhlaaGreatDoorSeat
import Derived.Test.YtgenbmicpdkhlaaGreatDoorEnds
import Derived.Test.YtgenbmicpdkhlaaGreatDoorCards
import Derived.Test.YtgenbmicpdkhlaaGreatDoorTie
import Derived.ProofKit
import Derived.WalkKit
import Derived.OpenShut
import Derived.ChangeOld
import Derived.Below
import Derived.Carry
import Derived.Lay
import Derived.Handed
set_option linter.unusedVariables false
set_option linter.unusedSimpArgs false
set_option linter.unusedSectionVars false
set_option linter.unnecessarySimpa false
namespace Go.Proofs.YtgenbmicpdkhlaaGreatDoor
open Go Go.Shelf Go.ChangeShapes Go.WideShapes Go.ChangeAt Go.RowKit
set_option linter.unusedVariables false
theorem own : ownKnob Tryz.prog.godebug = none := by kernel_rfl
theorem tabNamed : Tryz.prog.globalNamed "math/bits.deBruijn64tab" = some (laysTz_ren.g 1) := by kernel_rfl
theorem mach_ext : mA.ext (laysTz_ren.f 29) = some AM.ctzX := by
  show (bif Nat.beq (laysTz_ren.f 29) (laysTz_ren.f 29) then some AM.ctzX else none) = _
  rw [show Nat.beq (laysTz_ren.f 29) (laysTz_ren.f 29) = true from Nat.beq_refl _]; rfl
theorem ea_calls (a b : Int) (ha : (Lit.int .u8 a).wf = true) (hb : (Lit.int .u8 b).wf = true) (W : World) (hT : TabAt (laysTz_ren.g 1) Lib.deBruijn64tab W) (hg : laysTz_ren.g 1 < W.heap.size) :
    Calls Tryz.prog 3 #[.int .u8 a, .int .u8 b] W fun e W' => e = .returned (.bool true) ∧ Below W.heap.size W W' := by
  have h0 : ∀ x : Int, (Lit.int .u8 x).wf = true → 0 ≤ x := fun x h => by
    simp only [Lit.wf, Bool.and_eq_true, decide_eq_true_eq] at h
    exact h.1
  have fit : AM.VFits vA mA := AM.vprog_fits (by rw [← tzNum]; exact mach_ext)
  obtain ⟨N, σ', h⟩ := AM.law_run fit vcode.c_withelaw27_ExecAtomic.1 (AM.ea_all vcode a b (h0 a ha) (h0 b hb)) AM.hr0 (ws := [.i .u8 a, .i .u8 b]) ⟨rfl, fun j v w h1 h2 => by
    rcases j with _ | _ | j
    · simp at h1 h2; subst h1 h2; exact .i _ _ _
    · simp at h1 h2; subst h1 h2; exact .i _ _ _
    · simp at h1⟩
  refine (AM.top laysTz h (AM.sim0 W) hT hg (vals := [.int .u8 a, .int .u8 b]) (.cons _ _ _ _ (.i _ _) (.cons _ _ _ _ (.i _ _) .nil))).mono ?_
  rintro e W' ⟨u, ρ', rfl, hu, hbel⟩
  cases hu
  exact ⟨rfl, hbel⟩
abbrev laidL : List (String × DataW Unit) := [("math/bits.deBruijn64tab", Rows.laid_math_bits_deBruijn64tab)]
set_option maxRecDepth 100000 in
theorem lifted (os : Os) (started : os.Started) (H : Type) (enc : TypeId × Value → H) :
    ReturnsInHanded {} Tryz.checked os 3 .any (fun w args => (Rows.execAtomicSpec.pre enc Tryz.prog Tryz.f3 [] false w args ∧ laidMet Tryz.prog laidL w) ∧ sizedMet enc Tryz.prog Tryz.f3 (OpenSpec.ofChange Rows.execAtomicSpec) false w args)
      (Rows.execAtomicSpec.post enc Tryz.prog Tryz.f3 false true false false) := by
  refine returnsInHanded_of_change_and (C := Tryz.checked) (X := fun w _ => laidMet Tryz.prog laidL w) (fun _ _ _ hh h => h.of_heap hh) own started (by kernel_rfl) Tryz.func3
    (ChangeSpec.witness_at (enc := enc) (C := Tryz.checked) (os := os) (X := fun w _ => laidMet Tryz.prog laidL w) false (World.laidAll Tryz.prog os laidL) #[.int .u8 0, .int .u8 0] 8 (World.laidAll_os _ _ _) (by kernel_rfl) (by kernel_rfl) (by kernel_rfl) (by kernel_rfl) (by kernel_rfl)
      (laidMet_laidAll _ (by kernel_rfl) (by kernel_rfl))) ?_
  intro W base args ds gs before hval0 hW _ _ hL _
  have hval : ∀ (j : Nat) t v, Tryz.f3.params[j]? = some t → args[j]? = some v → Value.okWide Tryz.prog W .any base t v := hval0
  have hW' := hW
  obtain ⟨p, q, hA0, hV, rfl, hfz, hnd⟩ := hW
  have hA : DataW.TrodAll enc Tryz.prog W 0 (fun _ => true) true Tryz.f3.params.toList args.toList ds p := hA0
  rw [Tryz.params3] at hA hval
  obtain ⟨v0, v1, d0, d1, p0, p1, rfl, rfl, rfl, h0, h1⟩ := trodAll_two hA
  obtain ⟨rfl, rfl⟩ := trodVars_none hV
  obtain ⟨a, rfl, rfl, rfl, wa⟩ := open_int Tryz.underlying5 (hval 0 5 v0 rfl rfl) h0
  obtain ⟨b, rfl, rfl, rfl, wb⟩ := open_int Tryz.underlying5 (hval 1 5 v1 rfl rfl) h1
  clear hA0 hval0
  have hT : TabAt (laysTz_ren.g 1) Lib.deBruijn64tab W := AM.tab_of_laid (n := 64) (t := 236) (e := 5) tabNamed (by kernel_rfl) (by kernel_rfl) (by kernel_rfl) (by kernel_rfl) (by kernel_rfl) rfl hL
  have hg : laysTz_ren.g 1 < W.heap.size := AM.tab_lt hT
  refine (ea_calls a b wa wb W hT hg).mono fun e W' ⟨he, bel⟩ => ?_
  subst he
  exact ⟨_, rfl, _, _, _, [], _, [], hW', trodAll_mk1 (shut_bool Tryz.underlying4 _), trodAll_mk2 (shut_int Tryz.underlying5 wa) (shut_int Tryz.underlying5 wb), rfl, bel.frame _, fun h => by cases h⟩
theorem over : Rows.ExecAtomicSaid :=
  OpenClaim.holds_of_wide 3 Tryz.f3 rfl rfl rfl rfl rfl rfl rfl ⟨rfl, rfl, rfl, rfl, rfl⟩ rfl rfl rfl rfl rfl (by kernel_rfl) Tryz.func3 (by kernel_rfl)
    (of_decide_eq_true (by kernel_rfl)) (by unfold Func.isWrapper; first | (rw [if_pos (by decide +kernel)]; kernel_rfl) | (rw [if_neg (by decide +kernel)]; exact ⟨rfl, rfl⟩))
    (fun os started H enc _ => lifted os started H enc)
theorem card_holds : Rows.ExecAtomicCardSaid :=
  Claim7.holds_tied_plain_at .later [] [.data] true (true, "e059c6b3887839697c45921a646e19b6877229b80eb075f65c338f263c176920") false
    over (fun _ h => by cases h) (by kernel_rfl) (fun _ h => by cases h) execAtomic_row_tie rfl ⟨rfl, rfl⟩ (by kernel_rfl) rfl
    (fun f fn hf hfn => by
      obtain rfl : f = 3 := Option.some.inj ((show Tryz.prog.funcNamed "withe/withelaw27.ExecAtomic" = some 3 by kernel_rfl).symm.trans hf) |>.symm
      obtain rfl : fn = Tryz.f3 := (Option.some.inj (Tryz.func3.symm.trans hfn)).symm
      exact ⟨by kernel_rfl, fun j t ht => by
        rw [Tryz.params3] at ht
        have h3 : t = 5 := by
          rcases j with _ | _ | j
          · simpa using ht.symm
          · simpa using ht.symm
          · simp at ht
        subst h3
        exact (show Tryz.prog.wantsStandIn 5 = false by kernel_rfl)⟩)
    (by kernel_rfl)
end Go.Proofs.YtgenbmicpdkhlaaGreatDoor
