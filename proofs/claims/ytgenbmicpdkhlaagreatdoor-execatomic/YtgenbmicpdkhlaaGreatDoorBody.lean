/-
  What the law ExecAtomic does, out of what its calls answer.
-/
import Derived.Test.YtgenbmicpdkhlaaGreatDoorAmF
import Derived.Test.YtgenbmicpdkhlaaGreatDoorCoB
set_option linter.unusedVariables false
set_option linter.unusedSimpArgs false
set_option linter.unusedSectionVars false
set_option linter.unnecessarySimpa false
set_option linter.unusedSimpArgs false
set_option linter.unusedVariables false
set_option maxHeartbeats 4000000
namespace Go.AM
open Go
section
variable {V : VProg} (C : VCode V)
include C
def eaS (c : Int) : VV := .ls [[.i .i64 4, .i .i64 0, .s (bs [97]), .s (bs [120]), .ls [[.i .i64 1, .i .i64 c, .s (bs []), .ls []]], .ls [], .ls []]]
theorem ea_add (a c : Int) (hc : a.tmod 4 = c) (hw : IntKind.i64.wrap c = c) {Q : VV → Prop} : VP V n_withelaw27_ExecAtomic_1 [.i .u8 a] Q ↔ Q (eaS c) := by
  refine VP_eq ?_
  rw [VP_fn C.c_withelaw27_ExecAtomic_1.1 C.c_withelaw27_ExecAtomic_1.2]
  simp only [f_withelaw27_ExecAtomic_1, m_withelaw27_ExecAtomic_1, go_sem, ↓reduceIte, vbin_rem (show (4 : Int) ≠ 0 by decide), hc, hw, eaS]
theorem ea_body (a b c d : Int) (hc : a.tmod 4 = c) (hd : b.tmod 4 = d) (hw : IntKind.i64.wrap c = c) (hw2 : IntKind.i64.wrap d = d) (s1 s2 : Int) (hs1 : IntKind.i64.wrap (IntKind.i64.wrap (10 + IntKind.i64.wrap (2 * c)) + 1) = s1) (hs2 : IntKind.i64.wrap (IntKind.i64.wrap (10 + IntKind.i64.wrap (2 * c)) + 2) = s2)
    {R1 R2 R3 : List (List VV)}
    (H0 : VP V n_withelaw27_begun [] fun r => r = .b true)
    (H1 : VP V n_withemade_Tree [.ag [.s (bs [97]), .i .i64 4, .ls [[.s (bs [120]), .i .i64 0]], .ls [[eaS c], [eaS d]], .i .i64 1, .i .i64 1, .i .i64 0, .s (bs [120]), .i .i64 0, .ls []]] fun r => r = .tu [.ag [.i .i64 4, .ls R1, .ls R2, .ls R3], .b true])
    {E1 E2 E3 : VV}
    (hE1 : E1 = .ag [.ls [[.i .i64 0], [.i .i64 1], [.i .i64 2], [.i .i64 3], [.i .i64 10], [.i .i64 11], [.i .i64 12]], .ls [[.i .i64 (-1)], [.i .i64 (-1)], [.i .i64 0], [.i .i64 (-1)], [.i .i64 (-1)], [.i .i64 0], [.i .i64 (-1)]], .ls [[.ls [[.i .i64 0], [.i .i64 3], [.i .i64 12]]]]])
    (hE2 : E2 = .ag [.ls [[.i .i64 0], [.i .i64 1], [.i .i64 2], [.i .i64 3], [.i .i64 10], [.i .i64 11], [.i .i64 12]], .ls [[.i .i64 (-1)], [.i .i64 (-1)], [.i .i64 0], [.i .i64 (-1)], [.i .i64 (-1)], [.i .i64 0], [.i .i64 (-1)]], .ls [[.ls [[.i .i64 0], [.i .i64 12], [.i .i64 3]]]]])
    (hE3 : E3 = .ag [.ls [[.i .i64 0], [.i .i64 1], [.i .i64 2], [.i .i64 3], [.i .i64 10], [.i .i64 s1], [.i .i64 s2]], .ls [[.i .i64 (-1)], [.i .i64 (-1)], [.i .i64 0], [.i .i64 (-1)], [.i .i64 (-1)], [.i .i64 3], [.i .i64 (-1)]], .ls [[.ls [[.i .i64 0], [.i .i64 3], [.i .i64 s2]]]]])
    (A1 : VP V n_exec_Atomic [.ag [.i .i64 4, .ls R1, .ls R2, .ls R3], E1] fun r => r = .b false) (A2 : VP V n_exec_Atomic [.ag [.i .i64 4, .ls R1, .ls R2, .ls R3], E2] fun r => r = .b false) (A3 : VP V n_exec_Atomic [.ag [.i .i64 4, .ls R1, .ls R2, .ls R3], E3] fun r => r = .b true)
    (G1 : VP V n_exec_Good [.ag [.i .i64 4, .ls R1, .ls R2, .ls R3], E1] fun r => r = .b false) (G2 : VP V n_exec_Good [.ag [.i .i64 4, .ls R1, .ls R2, .ls R3], E2] fun r => r = .b false) (G3 : VP V n_exec_Good [.ag [.i .i64 4, .ls R1, .ls R2, .ls R3], E3] fun r => r = .b true)
    (X3 : VP V n_witheref17_ExecForm [.ag [.i .i64 4, .ls R1, .ls R2, .ls R3], E3] fun r => r = .b true) :
    VP V n_withelaw27_ExecAtomic [.i .u8 a, .i .u8 b] fun r => r = .b true := by
  subst hE1 hE2 hE3
  unfold eaS at H1
  rw [VP_fn C.c_withelaw27_ExecAtomic.1 C.c_withelaw27_ExecAtomic.2]
  simp only [f_withelaw27_ExecAtomic, m_withelaw27_ExecAtomic, go_sem, ↓reduceIte, VP_eq H0, VP_eq H1, VP_eq A1, VP_eq A2, VP_eq A3, VP_eq G1, VP_eq G2, VP_eq G3, VP_eq X3, ea_add C a c hc hw, ea_add C b d hd hw2, vbin_rem (show (4 : Int) ≠ 0 by decide), hc, hd, hw, hw2, hs1, hs2, eaS, (show min 1 7 = 1 by decide), (show min 1 3 = 1 by decide), (show ∀ n : Nat, min n (n+6) = n by omega)]
end
end Go.AM
