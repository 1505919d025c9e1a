/-
  Certificates: what calls answer, each carried out by the kernel.
-/
import Derived.Test.YtgenbmicpdkhlaaGreatDoorCeE
import Derived.KernelRfl
import Derived.Test.YtgenbmicpdkhlaaGreatDoorCe0
import Derived.Test.YtgenbmicpdkhlaaGreatDoorCe1
import Derived.Test.YtgenbmicpdkhlaaGreatDoorCe2
import Derived.Test.YtgenbmicpdkhlaaGreatDoorCe4
import Derived.Test.YtgenbmicpdkhlaaGreatDoorCe13
set_option linter.unusedVariables false
set_option linter.unusedSimpArgs false
set_option linter.unusedSectionVars false
set_option linter.unnecessarySimpa false
set_option maxRecDepth 1000000
set_option maxHeartbeats 4000000
namespace Go.AM
section
variable {V : VProg}
def v278 : VV := .ls [[v103], [v71]]
def v279 : VV := .ag [.s ⟨⟨[97]⟩⟩, .i .i64 4, .ls [[.s ⟨⟨[120]⟩⟩, .i .i64 0]], v278, .i .i64 1, .i .i64 1, .i .i64 0, .s ⟨⟨[120]⟩⟩, .i .i64 0, .ls []]
def v280 : VV := .ls [[.i .i64 (-1), .i .i64 (-1), .i .i64 3, .i .i64 0, .i .i64 0, .i .i64 0, .b false, .b false, .ls []], [.i .i64 0, .i .i64 (-1), .i .i64 1, .i .i64 0, .i .i64 0, .i .i64 0, .b false, .b false, .ls []], [.i .i64 0, .i .i64 1, .i .i64 2, .i .i64 0, .i .i64 0, .i .i64 0, .b false, .b false, .ls []], [.i .i64 0, .i .i64 2, .i .i64 3, .i .i64 0, .i .i64 0, .i .i64 3, .b true, .b true, .ls [[.i .i64 0]]], [.i .i64 0, .i .i64 1, .i .i64 2, .i .i64 0, .i .i64 0, .i .i64 1, .b false, .b false, .ls []], [.i .i64 0, .i .i64 4, .i .i64 3, .i .i64 0, .i .i64 0, .i .i64 0, .b true, .b true, .ls [[.i .i64 1]]], [.i .i64 0, .i .i64 1, .i .i64 2, .i .i64 0, .i .i64 0, .i .i64 2, .b false, .b false, .ls []], [.i .i64 0, .i .i64 6, .i .i64 3, .i .i64 0, .i .i64 0, .i .i64 1, .b true, .b true, .ls [[.i .i64 2]]], [.i .i64 0, .i .i64 1, .i .i64 2, .i .i64 0, .i .i64 0, .i .i64 3, .b false, .b false, .ls []], [.i .i64 0, .i .i64 8, .i .i64 3, .i .i64 0, .i .i64 0, .i .i64 2, .b true, .b true, .ls [[.i .i64 3]]], [.i .i64 1, .i .i64 (-1), .i .i64 1, .i .i64 0, .i .i64 0, .i .i64 0, .b false, .b false, .ls []], [.i .i64 1, .i .i64 10, .i .i64 2, .i .i64 0, .i .i64 0, .i .i64 0, .b false, .b false, .ls []], [.i .i64 1, .i .i64 11, .i .i64 3, .i .i64 0, .i .i64 0, .i .i64 1, .b true, .b true, .ls [[.i .i64 0]]], [.i .i64 1, .i .i64 10, .i .i64 2, .i .i64 0, .i .i64 0, .i .i64 1, .b false, .b false, .ls []], [.i .i64 1, .i .i64 13, .i .i64 3, .i .i64 0, .i .i64 0, .i .i64 2, .b true, .b true, .ls [[.i .i64 1]]], [.i .i64 1, .i .i64 10, .i .i64 2, .i .i64 0, .i .i64 0, .i .i64 2, .b false, .b false, .ls []], [.i .i64 1, .i .i64 15, .i .i64 3, .i .i64 0, .i .i64 0, .i .i64 3, .b true, .b true, .ls [[.i .i64 2]]], [.i .i64 1, .i .i64 10, .i .i64 2, .i .i64 0, .i .i64 0, .i .i64 3, .b false, .b false, .ls []], [.i .i64 1, .i .i64 17, .i .i64 3, .i .i64 0, .i .i64 0, .i .i64 0, .b true, .b true, .ls [[.i .i64 3]]]]
def v281 : VV := .ag [.i .i64 4, .ls [[.s ⟨⟨[120]⟩⟩]], .ls [[.ls [[.s ⟨⟨[97]⟩⟩]]], [.ls [[.s ⟨⟨[97]⟩⟩]]]], v280]
def v282 : VV := .tu [v281, .b true]
def a14648 : Ans := ⟨n_withemade_Tree, [v279], v282⟩
theorem t14648 (C : VCode V) : VA V a14648 := VA_of (envOk C) C.c_withemade_Tree.1 C.c_withemade_Tree.2 (O := [a27, a9, a27, a4356, a27, a2403, a1002, a4359, a2406, a4362, a4362, a4362, a4362, a2408, a2408, a2408, a2408]) (.cons (t27 C) (.cons (t9 C) (.cons (t27 C) (.cons (t4356 C) (.cons (t27 C) (.cons (t2403 C) (.cons (t1002 C) (.cons (t4359 C) (.cons (t2406 C) (.cons (t4362 C) (.cons (t4362 C) (.cons (t4362 C) (.cons (t4362 C) (.cons (t2408 C) (.cons (t2408 C) (.cons (t2408 C) (.cons (t2408 C) .nil))))))))))))))))) (by kernel_rfl)
def a14724 : Ans := ⟨n_lts_May, [v281], .b true⟩
theorem t14724 (C : VCode V) : VA V a14724 := VA_of (envOk C) C.c_lts_May.1 C.c_lts_May.2 (O := []) .nil (by kernel_rfl)
def v283 : VV := .ag [.i .i64 4, .ls [[.s ⟨⟨[120]⟩⟩]], .ls [[.ls [[.s ⟨⟨[97]⟩⟩]]], [.ls [[.s ⟨⟨[97]⟩⟩]]]], v280, v41, v42]
def v284 : VV := .f n_tree_deep_before [v283] []
def a15448 : Ans := ⟨n_tree_deep_rows, [v283, v284], v45⟩
theorem t15448 (C : VCode V) : VA V a15448 := VA_of (envOk C) C.c_tree_deep_rows.1 C.c_tree_deep_rows.2 (O := []) .nil (by kernel_rfl)
def a15449 : Ans := ⟨n_tree_Po, [v281], v45⟩
theorem t15449 (C : VCode V) : VA V a15449 := VA_of (envOk C) C.c_tree_Po.1 C.c_tree_Po.2 (O := [a14724, a15448]) (.cons (t14724 C) (.cons (t15448 C) .nil)) (by kernel_rfl)
def a15461 : Ans := ⟨n_sync_Hb, [v281, v40, v49], v46⟩
theorem t15461 (C : VCode V) : VA V a15461 := VA_of (envOk C) C.c_sync_Hb.1 C.c_sync_Hb.2 (O := [a14724, a1095, a1097, a15449, a2025, a2033, a2071, a2101]) (.cons (t14724 C) (.cons (t1095 C) (.cons (t1097 C) (.cons (t15449 C) (.cons (t2025 C) (.cons (t2033 C) (.cons (t2071 C) (.cons (t2101 C) .nil)))))))) (by kernel_rfl)
def a15463 : Ans := ⟨n_cohe_Is, [v281, v50], .b true⟩
theorem t15463 (C : VCode V) : VA V a15463 := VA_of (envOk C) C.c_cohe_Is.1 C.c_cohe_Is.2 (O := [a15461, a2106]) (.cons (t15461 C) (.cons (t2106 C) .nil)) (by kernel_rfl)
def v285 : VV := .ag [.i .i64 4, .ls [[.s ⟨⟨[120]⟩⟩]], .ls [[.ls [[.s ⟨⟨[97]⟩⟩]]], [.ls [[.s ⟨⟨[97]⟩⟩]]]], v280, v40, v49, .ls [[.ls [[.i .i64 0], [.i .i64 3], [.i .i64 12]]]], v46]
def a15467 : Ans := ⟨n_exec_run_atomic, [v285], .b false⟩
theorem t15467 (C : VCode V) : VA V a15467 := VA_of (envOk C) C.c_exec_run_atomic.1 C.c_exec_run_atomic.2 (O := [a2114]) (.cons (t2114 C) .nil) (by kernel_rfl)
def a15468 : Ans := ⟨n_exec_Atomic, [v281, v50], .b false⟩
theorem t15468 (C : VCode V) : VA V a15468 := VA_of (envOk C) C.c_exec_Atomic.1 C.c_exec_Atomic.2 (O := [a15463, a15461, a15467]) (.cons (t15463 C) (.cons (t15461 C) (.cons (t15467 C) .nil))) (by kernel_rfl)
def a15470 : Ans := ⟨n_cohe_Is, [v281, v52], .b true⟩
theorem t15470 (C : VCode V) : VA V a15470 := VA_of (envOk C) C.c_cohe_Is.1 C.c_cohe_Is.2 (O := [a15461, a2119]) (.cons (t15461 C) (.cons (t2119 C) .nil)) (by kernel_rfl)
def v286 : VV := .ag [.i .i64 4, .ls [[.s ⟨⟨[120]⟩⟩]], .ls [[.ls [[.s ⟨⟨[97]⟩⟩]]], [.ls [[.s ⟨⟨[97]⟩⟩]]]], v280, v40, v49, .ls [[.ls [[.i .i64 0], [.i .i64 12], [.i .i64 3]]]], v46]
def a15473 : Ans := ⟨n_exec_run_atomic, [v286], .b false⟩
theorem t15473 (C : VCode V) : VA V a15473 := VA_of (envOk C) C.c_exec_run_atomic.1 C.c_exec_run_atomic.2 (O := []) .nil (by kernel_rfl)
def a15474 : Ans := ⟨n_exec_Atomic, [v281, v52], .b false⟩
theorem t15474 (C : VCode V) : VA V a15474 := VA_of (envOk C) C.c_exec_Atomic.1 C.c_exec_Atomic.2 (O := [a15470, a15461, a15473]) (.cons (t15470 C) (.cons (t15461 C) (.cons (t15473 C) .nil))) (by kernel_rfl)
def v287 : VV := .fp [.i .i64 4, .ls [[.s ⟨⟨[120]⟩⟩]], .ls [[.ls [[.s ⟨⟨[97]⟩⟩]]], [.ls [[.s ⟨⟨[97]⟩⟩]]]], v280] 0
def v288 : VV := .fp [.i .i64 4, .ls [[.s ⟨⟨[120]⟩⟩]], .ls [[.ls [[.s ⟨⟨[97]⟩⟩]]], [.ls [[.s ⟨⟨[97]⟩⟩]]]], v280, v40, v49, .ls [[.ls [[.i .i64 0], [.i .i64 3], [.i .i64 12]]]]] 0
def a15479 : Ans := ⟨n_cohe_Exec_1, [.i .i64 2, v287, v288], .i .i64 0⟩
theorem t15479 (C : VCode V) : VA V a15479 := VA_of (envOk C) C.c_cohe_Exec_1.1 C.c_cohe_Exec_1.2 (O := []) .nil (by kernel_rfl)
def a15481 : Ans := ⟨n_cohe_Exec_1, [.i .i64 3, v287, v288], .i .i64 1⟩
theorem t15481 (C : VCode V) : VA V a15481 := VA_of (envOk C) C.c_cohe_Exec_1.1 C.c_cohe_Exec_1.2 (O := []) .nil (by kernel_rfl)
def a15484 : Ans := ⟨n_cohe_Exec_1, [.i .i64 11, v287, v288], .i .i64 0⟩
theorem t15484 (C : VCode V) : VA V a15484 := VA_of (envOk C) C.c_cohe_Exec_1.1 C.c_cohe_Exec_1.2 (O := [a2114]) (.cons (t2114 C) .nil) (by kernel_rfl)
def a15486 : Ans := ⟨n_cohe_Exec_1, [.i .i64 12, v287, v288], .i .i64 2⟩
theorem t15486 (C : VCode V) : VA V a15486 := VA_of (envOk C) C.c_cohe_Exec_1.1 C.c_cohe_Exec_1.2 (O := []) .nil (by kernel_rfl)
def a15489 : Ans := ⟨n_exec_Good, [v281, v50], .b false⟩
theorem t15489 (C : VCode V) : VA V a15489 := VA_of (envOk C) C.c_exec_Good.1 C.c_exec_Good.2 (O := [a15463, a15461, a15463, a15461, a2140, a15479, a2148, a15481, a14299, a15484, a2159, a15486, a3252, a15479, a15481, a15479, a15481, a14307, a15484, a15486, a15484, a15486, a3255, a15467]) (.cons (t15463 C) (.cons (t15461 C) (.cons (t15463 C) (.cons (t15461 C) (.cons (t2140 C) (.cons (t15479 C) (.cons (t2148 C) (.cons (t15481 C) (.cons (t14299 C) (.cons (t15484 C) (.cons (t2159 C) (.cons (t15486 C) (.cons (t3252 C) (.cons (t15479 C) (.cons (t15481 C) (.cons (t15479 C) (.cons (t15481 C) (.cons (t14307 C) (.cons (t15484 C) (.cons (t15486 C) (.cons (t15484 C) (.cons (t15486 C) (.cons (t3255 C) (.cons (t15467 C) .nil)))))))))))))))))))))))) (by kernel_rfl)
def v289 : VV := .fp [.i .i64 4, .ls [[.s ⟨⟨[120]⟩⟩]], .ls [[.ls [[.s ⟨⟨[97]⟩⟩]]], [.ls [[.s ⟨⟨[97]⟩⟩]]]], v280, v40, v49, .ls [[.ls [[.i .i64 0], [.i .i64 12], [.i .i64 3]]]]] 0
def a15494 : Ans := ⟨n_cohe_Exec_1, [.i .i64 2, v287, v289], .i .i64 0⟩
theorem t15494 (C : VCode V) : VA V a15494 := VA_of (envOk C) C.c_cohe_Exec_1.1 C.c_cohe_Exec_1.2 (O := []) .nil (by kernel_rfl)
def a15496 : Ans := ⟨n_cohe_Exec_1, [.i .i64 3, v287, v289], .i .i64 2⟩
theorem t15496 (C : VCode V) : VA V a15496 := VA_of (envOk C) C.c_cohe_Exec_1.1 C.c_cohe_Exec_1.2 (O := []) .nil (by kernel_rfl)
def a15499 : Ans := ⟨n_cohe_Exec_1, [.i .i64 11, v287, v289], .i .i64 0⟩
theorem t15499 (C : VCode V) : VA V a15499 := VA_of (envOk C) C.c_cohe_Exec_1.1 C.c_cohe_Exec_1.2 (O := [a2114]) (.cons (t2114 C) .nil) (by kernel_rfl)
def a15501 : Ans := ⟨n_cohe_Exec_1, [.i .i64 12, v287, v289], .i .i64 1⟩
theorem t15501 (C : VCode V) : VA V a15501 := VA_of (envOk C) C.c_cohe_Exec_1.1 C.c_cohe_Exec_1.2 (O := []) .nil (by kernel_rfl)
def a15504 : Ans := ⟨n_exec_Good, [v281, v52], .b false⟩
theorem t15504 (C : VCode V) : VA V a15504 := VA_of (envOk C) C.c_exec_Good.1 C.c_exec_Good.2 (O := [a15470, a15461, a15470, a15461, a2140, a15494, a2148, a15496, a14320, a15499, a2159, a15501, a3273, a15494, a15496, a15494, a15496, a14328, a15499, a15501, a15499, a15501, a3276, a15473]) (.cons (t15470 C) (.cons (t15461 C) (.cons (t15470 C) (.cons (t15461 C) (.cons (t2140 C) (.cons (t15494 C) (.cons (t2148 C) (.cons (t15496 C) (.cons (t14320 C) (.cons (t15499 C) (.cons (t2159 C) (.cons (t15501 C) (.cons (t3273 C) (.cons (t15494 C) (.cons (t15496 C) (.cons (t15494 C) (.cons (t15496 C) (.cons (t14328 C) (.cons (t15499 C) (.cons (t15501 C) (.cons (t15499 C) (.cons (t15501 C) (.cons (t3276 C) (.cons (t15473 C) .nil)))))))))))))))))))))))) (by kernel_rfl)
def a15527 : Ans := ⟨n_sync_Hb, [v281, v266, v63], v267⟩
theorem t15527 (C : VCode V) : VA V a15527 := VA_of (envOk C) C.c_sync_Hb.1 C.c_sync_Hb.2 (O := [a14724, a14332, a1097, a15449, a14380, a14388, a14388, a14433, a14461]) (.cons (t14724 C) (.cons (t14332 C) (.cons (t1097 C) (.cons (t15449 C) (.cons (t14380 C) (.cons (t14388 C) (.cons (t14388 C) (.cons (t14433 C) (.cons (t14461 C) .nil))))))))) (by kernel_rfl)
def a15529 : Ans := ⟨n_cohe_Is, [v281, v269], .b true⟩
theorem t15529 (C : VCode V) : VA V a15529 := VA_of (envOk C) C.c_cohe_Is.1 C.c_cohe_Is.2 (O := [a15527, a14466]) (.cons (t15527 C) (.cons (t14466 C) .nil)) (by kernel_rfl)
def v290 : VV := .ag [.i .i64 4, .ls [[.s ⟨⟨[120]⟩⟩]], .ls [[.ls [[.s ⟨⟨[97]⟩⟩]]], [.ls [[.s ⟨⟨[97]⟩⟩]]]], v280, v266, v63, .ls [[.ls [[.i .i64 0], [.i .i64 3], [.i .i64 18]]]], v267]
def a15533 : Ans := ⟨n_exec_run_atomic, [v290], .b true⟩
theorem t15533 (C : VCode V) : VA V a15533 := VA_of (envOk C) C.c_exec_run_atomic.1 C.c_exec_run_atomic.2 (O := [a14474]) (.cons (t14474 C) .nil) (by kernel_rfl)
def a15534 : Ans := ⟨n_exec_Atomic, [v281, v269], .b true⟩
theorem t15534 (C : VCode V) : VA V a15534 := VA_of (envOk C) C.c_exec_Atomic.1 C.c_exec_Atomic.2 (O := [a15529, a15527, a15533]) (.cons (t15529 C) (.cons (t15527 C) (.cons (t15533 C) .nil))) (by kernel_rfl)
def v291 : VV := .fp [.i .i64 4, .ls [[.s ⟨⟨[120]⟩⟩]], .ls [[.ls [[.s ⟨⟨[97]⟩⟩]]], [.ls [[.s ⟨⟨[97]⟩⟩]]]], v280, v266, v63, .ls [[.ls [[.i .i64 0], [.i .i64 3], [.i .i64 18]]]]] 0
def a15539 : Ans := ⟨n_cohe_Exec_1, [.i .i64 2, v287, v291], .i .i64 0⟩
theorem t15539 (C : VCode V) : VA V a15539 := VA_of (envOk C) C.c_cohe_Exec_1.1 C.c_cohe_Exec_1.2 (O := []) .nil (by kernel_rfl)
def a15541 : Ans := ⟨n_cohe_Exec_1, [.i .i64 3, v287, v291], .i .i64 1⟩
theorem t15541 (C : VCode V) : VA V a15541 := VA_of (envOk C) C.c_cohe_Exec_1.1 C.c_cohe_Exec_1.2 (O := []) .nil (by kernel_rfl)
def a15544 : Ans := ⟨n_cohe_Exec_1, [.i .i64 17, v287, v291], .i .i64 1⟩
theorem t15544 (C : VCode V) : VA V a15544 := VA_of (envOk C) C.c_cohe_Exec_1.1 C.c_cohe_Exec_1.2 (O := [a14474]) (.cons (t14474 C) .nil) (by kernel_rfl)
def a15546 : Ans := ⟨n_cohe_Exec_1, [.i .i64 18, v287, v291], .i .i64 2⟩
theorem t15546 (C : VCode V) : VA V a15546 := VA_of (envOk C) C.c_cohe_Exec_1.1 C.c_cohe_Exec_1.2 (O := []) .nil (by kernel_rfl)
def a15556 : Ans := ⟨n_exec_run_behind, [v290, .i .i64 0], .i .u64 262152⟩
theorem t15556 (C : VCode V) : VA V a15556 := VA_of (envOk C) C.c_exec_run_behind.1 C.c_exec_run_behind.2 (O := []) .nil (by kernel_rfl)
def a15568 : Ans := ⟨n_exec_run_behind, [v290, .i .i64 3], .i .u64 262144⟩
theorem t15568 (C : VCode V) : VA V a15568 := VA_of (envOk C) C.c_exec_run_behind.1 C.c_exec_run_behind.2 (O := []) .nil (by kernel_rfl)
def a15594 : Ans := ⟨n_exec_Good, [v281, v269], .b true⟩
theorem t15594 (C : VCode V) : VA V a15594 := VA_of (envOk C) C.c_exec_Good.1 C.c_exec_Good.2 (O := [a15529, a15527, a15529, a15527, a14482, a15539, a2148, a15541, a14299, a15544, a14495, a15546, a15539, a15541, a15539, a15541, a14307, a15544, a15546, a15544, a15546, a15533, a15556, a15556, a15568, a14474, a15568, a14541, a14586, a14617, a14619, a2383]) (.cons (t15529 C) (.cons (t15527 C) (.cons (t15529 C) (.cons (t15527 C) (.cons (t14482 C) (.cons (t15539 C) (.cons (t2148 C) (.cons (t15541 C) (.cons (t14299 C) (.cons (t15544 C) (.cons (t14495 C) (.cons (t15546 C) (.cons (t15539 C) (.cons (t15541 C) (.cons (t15539 C) (.cons (t15541 C) (.cons (t14307 C) (.cons (t15544 C) (.cons (t15546 C) (.cons (t15544 C) (.cons (t15546 C) (.cons (t15533 C) (.cons (t15556 C) (.cons (t15556 C) (.cons (t15568 C) (.cons (t14474 C) (.cons (t15568 C) (.cons (t14541 C) (.cons (t14586 C) (.cons (t14617 C) (.cons (t14619 C) (.cons (t2383 C) .nil)))))))))))))))))))))))))))))))) (by kernel_rfl)
def a15603 : Ans := ⟨n_witheref17_ExecForm, [v281, v269], .b true⟩
theorem t15603 (C : VCode V) : VA V a15603 := VA_of (envOk C) C.c_witheref17_ExecForm.1 C.c_witheref17_ExecForm.2 (O := [a14641]) (.cons (t14641 C) .nil) (by kernel_rfl)
end
end Go.AM
