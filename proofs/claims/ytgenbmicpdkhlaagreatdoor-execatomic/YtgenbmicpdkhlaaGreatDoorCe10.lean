/-
  Certificates: what calls answer, each carried out by the kernel.
-/
import Derived.Test.YtgenbmicpdkhlaaGreatDoorCeE
import Derived.KernelRfl
import Derived.Test.YtgenbmicpdkhlaaGreatDoorCe0
import Derived.Test.YtgenbmicpdkhlaaGreatDoorCe1
import Derived.Test.YtgenbmicpdkhlaaGreatDoorCe2
import Derived.Test.YtgenbmicpdkhlaaGreatDoorCe3
import Derived.Test.YtgenbmicpdkhlaaGreatDoorCe9
set_option linter.unusedVariables false
set_option linter.unusedSimpArgs false
set_option linter.unusedSectionVars false
set_option linter.unnecessarySimpa false
set_option maxRecDepth 1000000
set_option maxHeartbeats 4000000
namespace Go.AM
section
variable {V : VProg}
def v211 : VV := .ls [[v87], [v71]]
def v212 : VV := .ag [.s ⟨⟨[97]⟩⟩, .i .i64 4, .ls [[.s ⟨⟨[120]⟩⟩, .i .i64 0]], v211, .i .i64 1, .i .i64 1, .i .i64 0, .s ⟨⟨[120]⟩⟩, .i .i64 0, .ls []]
def v213 : VV := .ls [[.i .i64 (-1), .i .i64 (-1), .i .i64 3, .i .i64 0, .i .i64 0, .i .i64 0, .b false, .b false, .ls []], [.i .i64 0, .i .i64 (-1), .i .i64 1, .i .i64 0, .i .i64 0, .i .i64 0, .b false, .b false, .ls []], [.i .i64 0, .i .i64 1, .i .i64 2, .i .i64 0, .i .i64 0, .i .i64 0, .b false, .b false, .ls []], [.i .i64 0, .i .i64 2, .i .i64 3, .i .i64 0, .i .i64 0, .i .i64 2, .b true, .b true, .ls [[.i .i64 0]]], [.i .i64 0, .i .i64 1, .i .i64 2, .i .i64 0, .i .i64 0, .i .i64 1, .b false, .b false, .ls []], [.i .i64 0, .i .i64 4, .i .i64 3, .i .i64 0, .i .i64 0, .i .i64 3, .b true, .b true, .ls [[.i .i64 1]]], [.i .i64 0, .i .i64 1, .i .i64 2, .i .i64 0, .i .i64 0, .i .i64 2, .b false, .b false, .ls []], [.i .i64 0, .i .i64 6, .i .i64 3, .i .i64 0, .i .i64 0, .i .i64 0, .b true, .b true, .ls [[.i .i64 2]]], [.i .i64 0, .i .i64 1, .i .i64 2, .i .i64 0, .i .i64 0, .i .i64 3, .b false, .b false, .ls []], [.i .i64 0, .i .i64 8, .i .i64 3, .i .i64 0, .i .i64 0, .i .i64 1, .b true, .b true, .ls [[.i .i64 3]]], [.i .i64 1, .i .i64 (-1), .i .i64 1, .i .i64 0, .i .i64 0, .i .i64 0, .b false, .b false, .ls []], [.i .i64 1, .i .i64 10, .i .i64 2, .i .i64 0, .i .i64 0, .i .i64 0, .b false, .b false, .ls []], [.i .i64 1, .i .i64 11, .i .i64 3, .i .i64 0, .i .i64 0, .i .i64 1, .b true, .b true, .ls [[.i .i64 0]]], [.i .i64 1, .i .i64 10, .i .i64 2, .i .i64 0, .i .i64 0, .i .i64 1, .b false, .b false, .ls []], [.i .i64 1, .i .i64 13, .i .i64 3, .i .i64 0, .i .i64 0, .i .i64 2, .b true, .b true, .ls [[.i .i64 1]]], [.i .i64 1, .i .i64 10, .i .i64 2, .i .i64 0, .i .i64 0, .i .i64 2, .b false, .b false, .ls []], [.i .i64 1, .i .i64 15, .i .i64 3, .i .i64 0, .i .i64 0, .i .i64 3, .b true, .b true, .ls [[.i .i64 2]]], [.i .i64 1, .i .i64 10, .i .i64 2, .i .i64 0, .i .i64 0, .i .i64 3, .b false, .b false, .ls []], [.i .i64 1, .i .i64 17, .i .i64 3, .i .i64 0, .i .i64 0, .i .i64 0, .b true, .b true, .ls [[.i .i64 3]]]]
def v214 : VV := .ag [.i .i64 4, .ls [[.s ⟨⟨[120]⟩⟩]], .ls [[.ls [[.s ⟨⟨[97]⟩⟩]]], [.ls [[.s ⟨⟨[97]⟩⟩]]]], v213]
def v215 : VV := .tu [v214, .b true]
def a10583 : Ans := ⟨n_withemade_Tree, [v212], v215⟩
theorem t10583 (C : VCode V) : VA V a10583 := VA_of (envOk C) C.c_withemade_Tree.1 C.c_withemade_Tree.2 (O := [a27, a9, a27, a3379, a27, a2403, a1002, a3382, a2406, a3385, a3385, a3385, a3385, a2408, a2408, a2408, a2408]) (.cons (t27 C) (.cons (t9 C) (.cons (t27 C) (.cons (t3379 C) (.cons (t27 C) (.cons (t2403 C) (.cons (t1002 C) (.cons (t3382 C) (.cons (t2406 C) (.cons (t3385 C) (.cons (t3385 C) (.cons (t3385 C) (.cons (t3385 C) (.cons (t2408 C) (.cons (t2408 C) (.cons (t2408 C) (.cons (t2408 C) .nil))))))))))))))))) (by kernel_rfl)
def a10659 : Ans := ⟨n_lts_May, [v214], .b true⟩
theorem t10659 (C : VCode V) : VA V a10659 := VA_of (envOk C) C.c_lts_May.1 C.c_lts_May.2 (O := []) .nil (by kernel_rfl)
def v216 : VV := .ag [.i .i64 4, .ls [[.s ⟨⟨[120]⟩⟩]], .ls [[.ls [[.s ⟨⟨[97]⟩⟩]]], [.ls [[.s ⟨⟨[97]⟩⟩]]]], v213, v41, v42]
def v217 : VV := .f n_tree_deep_before [v216] []
def a11383 : Ans := ⟨n_tree_deep_rows, [v216, v217], v45⟩
theorem t11383 (C : VCode V) : VA V a11383 := VA_of (envOk C) C.c_tree_deep_rows.1 C.c_tree_deep_rows.2 (O := []) .nil (by kernel_rfl)
def a11384 : Ans := ⟨n_tree_Po, [v214], v45⟩
theorem t11384 (C : VCode V) : VA V a11384 := VA_of (envOk C) C.c_tree_Po.1 C.c_tree_Po.2 (O := [a10659, a11383]) (.cons (t10659 C) (.cons (t11383 C) .nil)) (by kernel_rfl)
def a11396 : Ans := ⟨n_sync_Hb, [v214, v40, v49], v46⟩
theorem t11396 (C : VCode V) : VA V a11396 := VA_of (envOk C) C.c_sync_Hb.1 C.c_sync_Hb.2 (O := [a10659, a1095, a1097, a11384, a2025, a2033, a2071, a2101]) (.cons (t10659 C) (.cons (t1095 C) (.cons (t1097 C) (.cons (t11384 C) (.cons (t2025 C) (.cons (t2033 C) (.cons (t2071 C) (.cons (t2101 C) .nil)))))))) (by kernel_rfl)
def a11398 : Ans := ⟨n_cohe_Is, [v214, v50], .b true⟩
theorem t11398 (C : VCode V) : VA V a11398 := VA_of (envOk C) C.c_cohe_Is.1 C.c_cohe_Is.2 (O := [a11396, a2106]) (.cons (t11396 C) (.cons (t2106 C) .nil)) (by kernel_rfl)
def v218 : VV := .ag [.i .i64 4, .ls [[.s ⟨⟨[120]⟩⟩]], .ls [[.ls [[.s ⟨⟨[97]⟩⟩]]], [.ls [[.s ⟨⟨[97]⟩⟩]]]], v213, v40, v49, .ls [[.ls [[.i .i64 0], [.i .i64 3], [.i .i64 12]]]], v46]
def a11402 : Ans := ⟨n_exec_run_atomic, [v218], .b false⟩
theorem t11402 (C : VCode V) : VA V a11402 := VA_of (envOk C) C.c_exec_run_atomic.1 C.c_exec_run_atomic.2 (O := [a2114]) (.cons (t2114 C) .nil) (by kernel_rfl)
def a11403 : Ans := ⟨n_exec_Atomic, [v214, v50], .b false⟩
theorem t11403 (C : VCode V) : VA V a11403 := VA_of (envOk C) C.c_exec_Atomic.1 C.c_exec_Atomic.2 (O := [a11398, a11396, a11402]) (.cons (t11398 C) (.cons (t11396 C) (.cons (t11402 C) .nil))) (by kernel_rfl)
def a11405 : Ans := ⟨n_cohe_Is, [v214, v52], .b true⟩
theorem t11405 (C : VCode V) : VA V a11405 := VA_of (envOk C) C.c_cohe_Is.1 C.c_cohe_Is.2 (O := [a11396, a2119]) (.cons (t11396 C) (.cons (t2119 C) .nil)) (by kernel_rfl)
def v219 : VV := .ag [.i .i64 4, .ls [[.s ⟨⟨[120]⟩⟩]], .ls [[.ls [[.s ⟨⟨[97]⟩⟩]]], [.ls [[.s ⟨⟨[97]⟩⟩]]]], v213, v40, v49, .ls [[.ls [[.i .i64 0], [.i .i64 12], [.i .i64 3]]]], v46]
def a11408 : Ans := ⟨n_exec_run_atomic, [v219], .b false⟩
theorem t11408 (C : VCode V) : VA V a11408 := VA_of (envOk C) C.c_exec_run_atomic.1 C.c_exec_run_atomic.2 (O := []) .nil (by kernel_rfl)
def a11409 : Ans := ⟨n_exec_Atomic, [v214, v52], .b false⟩
theorem t11409 (C : VCode V) : VA V a11409 := VA_of (envOk C) C.c_exec_Atomic.1 C.c_exec_Atomic.2 (O := [a11405, a11396, a11408]) (.cons (t11405 C) (.cons (t11396 C) (.cons (t11408 C) .nil))) (by kernel_rfl)
def v220 : VV := .fp [.i .i64 4, .ls [[.s ⟨⟨[120]⟩⟩]], .ls [[.ls [[.s ⟨⟨[97]⟩⟩]]], [.ls [[.s ⟨⟨[97]⟩⟩]]]], v213] 0
def v221 : VV := .fp [.i .i64 4, .ls [[.s ⟨⟨[120]⟩⟩]], .ls [[.ls [[.s ⟨⟨[97]⟩⟩]]], [.ls [[.s ⟨⟨[97]⟩⟩]]]], v213, v40, v49, .ls [[.ls [[.i .i64 0], [.i .i64 3], [.i .i64 12]]]]] 0
def a11414 : Ans := ⟨n_cohe_Exec_1, [.i .i64 2, v220, v221], .i .i64 0⟩
theorem t11414 (C : VCode V) : VA V a11414 := VA_of (envOk C) C.c_cohe_Exec_1.1 C.c_cohe_Exec_1.2 (O := []) .nil (by kernel_rfl)
def a11416 : Ans := ⟨n_cohe_Exec_1, [.i .i64 3, v220, v221], .i .i64 1⟩
theorem t11416 (C : VCode V) : VA V a11416 := VA_of (envOk C) C.c_cohe_Exec_1.1 C.c_cohe_Exec_1.2 (O := []) .nil (by kernel_rfl)
def a11419 : Ans := ⟨n_cohe_Exec_1, [.i .i64 11, v220, v221], .i .i64 0⟩
theorem t11419 (C : VCode V) : VA V a11419 := VA_of (envOk C) C.c_cohe_Exec_1.1 C.c_cohe_Exec_1.2 (O := [a2114]) (.cons (t2114 C) .nil) (by kernel_rfl)
def a11421 : Ans := ⟨n_cohe_Exec_1, [.i .i64 12, v220, v221], .i .i64 2⟩
theorem t11421 (C : VCode V) : VA V a11421 := VA_of (envOk C) C.c_cohe_Exec_1.1 C.c_cohe_Exec_1.2 (O := []) .nil (by kernel_rfl)
def a11424 : Ans := ⟨n_exec_Good, [v214, v50], .b false⟩
theorem t11424 (C : VCode V) : VA V a11424 := VA_of (envOk C) C.c_exec_Good.1 C.c_exec_Good.2 (O := [a11398, a11396, a11398, a11396, a2140, a11414, a2148, a11416, a10234, a11419, a2159, a11421, a3252, a11414, a11416, a11414, a11416, a10242, a11419, a11421, a11419, a11421, a3255, a11402]) (.cons (t11398 C) (.cons (t11396 C) (.cons (t11398 C) (.cons (t11396 C) (.cons (t2140 C) (.cons (t11414 C) (.cons (t2148 C) (.cons (t11416 C) (.cons (t10234 C) (.cons (t11419 C) (.cons (t2159 C) (.cons (t11421 C) (.cons (t3252 C) (.cons (t11414 C) (.cons (t11416 C) (.cons (t11414 C) (.cons (t11416 C) (.cons (t10242 C) (.cons (t11419 C) (.cons (t11421 C) (.cons (t11419 C) (.cons (t11421 C) (.cons (t3255 C) (.cons (t11402 C) .nil)))))))))))))))))))))))) (by kernel_rfl)
def v222 : VV := .fp [.i .i64 4, .ls [[.s ⟨⟨[120]⟩⟩]], .ls [[.ls [[.s ⟨⟨[97]⟩⟩]]], [.ls [[.s ⟨⟨[97]⟩⟩]]]], v213, v40, v49, .ls [[.ls [[.i .i64 0], [.i .i64 12], [.i .i64 3]]]]] 0
def a11429 : Ans := ⟨n_cohe_Exec_1, [.i .i64 2, v220, v222], .i .i64 0⟩
theorem t11429 (C : VCode V) : VA V a11429 := VA_of (envOk C) C.c_cohe_Exec_1.1 C.c_cohe_Exec_1.2 (O := []) .nil (by kernel_rfl)
def a11431 : Ans := ⟨n_cohe_Exec_1, [.i .i64 3, v220, v222], .i .i64 2⟩
theorem t11431 (C : VCode V) : VA V a11431 := VA_of (envOk C) C.c_cohe_Exec_1.1 C.c_cohe_Exec_1.2 (O := []) .nil (by kernel_rfl)
def a11434 : Ans := ⟨n_cohe_Exec_1, [.i .i64 11, v220, v222], .i .i64 0⟩
theorem t11434 (C : VCode V) : VA V a11434 := VA_of (envOk C) C.c_cohe_Exec_1.1 C.c_cohe_Exec_1.2 (O := [a2114]) (.cons (t2114 C) .nil) (by kernel_rfl)
def a11436 : Ans := ⟨n_cohe_Exec_1, [.i .i64 12, v220, v222], .i .i64 1⟩
theorem t11436 (C : VCode V) : VA V a11436 := VA_of (envOk C) C.c_cohe_Exec_1.1 C.c_cohe_Exec_1.2 (O := []) .nil (by kernel_rfl)
def a11439 : Ans := ⟨n_exec_Good, [v214, v52], .b false⟩
theorem t11439 (C : VCode V) : VA V a11439 := VA_of (envOk C) C.c_exec_Good.1 C.c_exec_Good.2 (O := [a11405, a11396, a11405, a11396, a2140, a11429, a2148, a11431, a10255, a11434, a2159, a11436, a3273, a11429, a11431, a11429, a11431, a10263, a11434, a11436, a11434, a11436, a3276, a11408]) (.cons (t11405 C) (.cons (t11396 C) (.cons (t11405 C) (.cons (t11396 C) (.cons (t2140 C) (.cons (t11429 C) (.cons (t2148 C) (.cons (t11431 C) (.cons (t10255 C) (.cons (t11434 C) (.cons (t2159 C) (.cons (t11436 C) (.cons (t3273 C) (.cons (t11429 C) (.cons (t11431 C) (.cons (t11429 C) (.cons (t11431 C) (.cons (t10263 C) (.cons (t11434 C) (.cons (t11436 C) (.cons (t11434 C) (.cons (t11436 C) (.cons (t3276 C) (.cons (t11408 C) .nil)))))))))))))))))))))))) (by kernel_rfl)
def a11462 : Ans := ⟨n_sync_Hb, [v214, v199, v63], v200⟩
theorem t11462 (C : VCode V) : VA V a11462 := VA_of (envOk C) C.c_sync_Hb.1 C.c_sync_Hb.2 (O := [a10659, a10267, a1097, a11384, a10315, a10323, a10323, a10368, a10396]) (.cons (t10659 C) (.cons (t10267 C) (.cons (t1097 C) (.cons (t11384 C) (.cons (t10315 C) (.cons (t10323 C) (.cons (t10323 C) (.cons (t10368 C) (.cons (t10396 C) .nil))))))))) (by kernel_rfl)
def a11464 : Ans := ⟨n_cohe_Is, [v214, v202], .b true⟩
theorem t11464 (C : VCode V) : VA V a11464 := VA_of (envOk C) C.c_cohe_Is.1 C.c_cohe_Is.2 (O := [a11462, a10401]) (.cons (t11462 C) (.cons (t10401 C) .nil)) (by kernel_rfl)
def v223 : VV := .ag [.i .i64 4, .ls [[.s ⟨⟨[120]⟩⟩]], .ls [[.ls [[.s ⟨⟨[97]⟩⟩]]], [.ls [[.s ⟨⟨[97]⟩⟩]]]], v213, v199, v63, .ls [[.ls [[.i .i64 0], [.i .i64 3], [.i .i64 16]]]], v200]
def a11468 : Ans := ⟨n_exec_run_atomic, [v223], .b true⟩
theorem t11468 (C : VCode V) : VA V a11468 := VA_of (envOk C) C.c_exec_run_atomic.1 C.c_exec_run_atomic.2 (O := [a10409]) (.cons (t10409 C) .nil) (by kernel_rfl)
def a11469 : Ans := ⟨n_exec_Atomic, [v214, v202], .b true⟩
theorem t11469 (C : VCode V) : VA V a11469 := VA_of (envOk C) C.c_exec_Atomic.1 C.c_exec_Atomic.2 (O := [a11464, a11462, a11468]) (.cons (t11464 C) (.cons (t11462 C) (.cons (t11468 C) .nil))) (by kernel_rfl)
def v224 : VV := .fp [.i .i64 4, .ls [[.s ⟨⟨[120]⟩⟩]], .ls [[.ls [[.s ⟨⟨[97]⟩⟩]]], [.ls [[.s ⟨⟨[97]⟩⟩]]]], v213, v199, v63, .ls [[.ls [[.i .i64 0], [.i .i64 3], [.i .i64 16]]]]] 0
def a11474 : Ans := ⟨n_cohe_Exec_1, [.i .i64 2, v220, v224], .i .i64 0⟩
theorem t11474 (C : VCode V) : VA V a11474 := VA_of (envOk C) C.c_cohe_Exec_1.1 C.c_cohe_Exec_1.2 (O := []) .nil (by kernel_rfl)
def a11476 : Ans := ⟨n_cohe_Exec_1, [.i .i64 3, v220, v224], .i .i64 1⟩
theorem t11476 (C : VCode V) : VA V a11476 := VA_of (envOk C) C.c_cohe_Exec_1.1 C.c_cohe_Exec_1.2 (O := []) .nil (by kernel_rfl)
def a11479 : Ans := ⟨n_cohe_Exec_1, [.i .i64 15, v220, v224], .i .i64 1⟩
theorem t11479 (C : VCode V) : VA V a11479 := VA_of (envOk C) C.c_cohe_Exec_1.1 C.c_cohe_Exec_1.2 (O := [a10409]) (.cons (t10409 C) .nil) (by kernel_rfl)
def a11481 : Ans := ⟨n_cohe_Exec_1, [.i .i64 16, v220, v224], .i .i64 2⟩
theorem t11481 (C : VCode V) : VA V a11481 := VA_of (envOk C) C.c_cohe_Exec_1.1 C.c_cohe_Exec_1.2 (O := []) .nil (by kernel_rfl)
def a11491 : Ans := ⟨n_exec_run_behind, [v223, .i .i64 0], .i .u64 65544⟩
theorem t11491 (C : VCode V) : VA V a11491 := VA_of (envOk C) C.c_exec_run_behind.1 C.c_exec_run_behind.2 (O := []) .nil (by kernel_rfl)
def a11503 : Ans := ⟨n_exec_run_behind, [v223, .i .i64 3], .i .u64 65536⟩
theorem t11503 (C : VCode V) : VA V a11503 := VA_of (envOk C) C.c_exec_run_behind.1 C.c_exec_run_behind.2 (O := []) .nil (by kernel_rfl)
def a11529 : Ans := ⟨n_exec_Good, [v214, v202], .b true⟩
theorem t11529 (C : VCode V) : VA V a11529 := VA_of (envOk C) C.c_exec_Good.1 C.c_exec_Good.2 (O := [a11464, a11462, a11464, a11462, a10417, a11474, a2148, a11476, a10234, a11479, a10430, a11481, a11474, a11476, a11474, a11476, a10242, a11479, a11481, a11479, a11481, a11468, a11491, a11491, a11503, a10409, a11503, a10476, a10521, a10552, a10554, a2383]) (.cons (t11464 C) (.cons (t11462 C) (.cons (t11464 C) (.cons (t11462 C) (.cons (t10417 C) (.cons (t11474 C) (.cons (t2148 C) (.cons (t11476 C) (.cons (t10234 C) (.cons (t11479 C) (.cons (t10430 C) (.cons (t11481 C) (.cons (t11474 C) (.cons (t11476 C) (.cons (t11474 C) (.cons (t11476 C) (.cons (t10242 C) (.cons (t11479 C) (.cons (t11481 C) (.cons (t11479 C) (.cons (t11481 C) (.cons (t11468 C) (.cons (t11491 C) (.cons (t11491 C) (.cons (t11503 C) (.cons (t10409 C) (.cons (t11503 C) (.cons (t10476 C) (.cons (t10521 C) (.cons (t10552 C) (.cons (t10554 C) (.cons (t2383 C) .nil)))))))))))))))))))))))))))))))) (by kernel_rfl)
def a11538 : Ans := ⟨n_witheref17_ExecForm, [v214, v202], .b true⟩
theorem t11538 (C : VCode V) : VA V a11538 := VA_of (envOk C) C.c_witheref17_ExecForm.1 C.c_witheref17_ExecForm.2 (O := [a10576]) (.cons (t10576 C) .nil) (by kernel_rfl)
end
end Go.AM
