/-
  Certificates: what calls answer, each carried out by the kernel.
-/
import Derived.Test.YtgenbmicpdkhlaaGreatDoorCeE
import Derived.KernelRfl
import Derived.Test.YtgenbmicpdkhlaaGreatDoorCe0
import Derived.Test.YtgenbmicpdkhlaaGreatDoorCe1
import Derived.Test.YtgenbmicpdkhlaaGreatDoorCe3
import Derived.Test.YtgenbmicpdkhlaaGreatDoorCe9
set_option linter.unusedVariables false
set_option linter.unusedSimpArgs false
set_option linter.unusedSectionVars false
set_option linter.unnecessarySimpa false
set_option maxRecDepth 1000000
set_option maxHeartbeats 4000000
namespace Go.AM
section
variable {V : VProg}
def v225 : VV := .ls [[v87], [v87]]
def v226 : VV := .ag [.s ⟨⟨[97]⟩⟩, .i .i64 4, .ls [[.s ⟨⟨[120]⟩⟩, .i .i64 0]], v225, .i .i64 1, .i .i64 1, .i .i64 0, .s ⟨⟨[120]⟩⟩, .i .i64 0, .ls []]
def v227 : VV := .ls [[.i .i64 (-1), .i .i64 (-1), .i .i64 3, .i .i64 0, .i .i64 0, .i .i64 0, .b false, .b false, .ls []], [.i .i64 0, .i .i64 (-1), .i .i64 1, .i .i64 0, .i .i64 0, .i .i64 0, .b false, .b false, .ls []], [.i .i64 0, .i .i64 1, .i .i64 2, .i .i64 0, .i .i64 0, .i .i64 0, .b false, .b false, .ls []], [.i .i64 0, .i .i64 2, .i .i64 3, .i .i64 0, .i .i64 0, .i .i64 2, .b true, .b true, .ls [[.i .i64 0]]], [.i .i64 0, .i .i64 1, .i .i64 2, .i .i64 0, .i .i64 0, .i .i64 1, .b false, .b false, .ls []], [.i .i64 0, .i .i64 4, .i .i64 3, .i .i64 0, .i .i64 0, .i .i64 3, .b true, .b true, .ls [[.i .i64 1]]], [.i .i64 0, .i .i64 1, .i .i64 2, .i .i64 0, .i .i64 0, .i .i64 2, .b false, .b false, .ls []], [.i .i64 0, .i .i64 6, .i .i64 3, .i .i64 0, .i .i64 0, .i .i64 0, .b true, .b true, .ls [[.i .i64 2]]], [.i .i64 0, .i .i64 1, .i .i64 2, .i .i64 0, .i .i64 0, .i .i64 3, .b false, .b false, .ls []], [.i .i64 0, .i .i64 8, .i .i64 3, .i .i64 0, .i .i64 0, .i .i64 1, .b true, .b true, .ls [[.i .i64 3]]], [.i .i64 1, .i .i64 (-1), .i .i64 1, .i .i64 0, .i .i64 0, .i .i64 0, .b false, .b false, .ls []], [.i .i64 1, .i .i64 10, .i .i64 2, .i .i64 0, .i .i64 0, .i .i64 0, .b false, .b false, .ls []], [.i .i64 1, .i .i64 11, .i .i64 3, .i .i64 0, .i .i64 0, .i .i64 2, .b true, .b true, .ls [[.i .i64 0]]], [.i .i64 1, .i .i64 10, .i .i64 2, .i .i64 0, .i .i64 0, .i .i64 1, .b false, .b false, .ls []], [.i .i64 1, .i .i64 13, .i .i64 3, .i .i64 0, .i .i64 0, .i .i64 3, .b true, .b true, .ls [[.i .i64 1]]], [.i .i64 1, .i .i64 10, .i .i64 2, .i .i64 0, .i .i64 0, .i .i64 2, .b false, .b false, .ls []], [.i .i64 1, .i .i64 15, .i .i64 3, .i .i64 0, .i .i64 0, .i .i64 0, .b true, .b true, .ls [[.i .i64 2]]], [.i .i64 1, .i .i64 10, .i .i64 2, .i .i64 0, .i .i64 0, .i .i64 3, .b false, .b false, .ls []], [.i .i64 1, .i .i64 17, .i .i64 3, .i .i64 0, .i .i64 0, .i .i64 1, .b true, .b true, .ls [[.i .i64 3]]]]
def v228 : VV := .ag [.i .i64 4, .ls [[.s ⟨⟨[120]⟩⟩]], .ls [[.ls [[.s ⟨⟨[97]⟩⟩]]], [.ls [[.s ⟨⟨[97]⟩⟩]]]], v227]
def v229 : VV := .tu [v228, .b true]
def a11543 : Ans := ⟨n_withemade_Tree, [v226], v229⟩
theorem t11543 (C : VCode V) : VA V a11543 := VA_of (envOk C) C.c_withemade_Tree.1 C.c_withemade_Tree.2 (O := [a27, a9, a27, a3379, a27, a3379, a1002, a3382, a3382, a3385, a3385, a3385, a3385, a3385, a3385, a3385, a3385]) (.cons (t27 C) (.cons (t9 C) (.cons (t27 C) (.cons (t3379 C) (.cons (t27 C) (.cons (t3379 C) (.cons (t1002 C) (.cons (t3382 C) (.cons (t3382 C) (.cons (t3385 C) (.cons (t3385 C) (.cons (t3385 C) (.cons (t3385 C) (.cons (t3385 C) (.cons (t3385 C) (.cons (t3385 C) (.cons (t3385 C) .nil))))))))))))))))) (by kernel_rfl)
def a11619 : Ans := ⟨n_lts_May, [v228], .b true⟩
theorem t11619 (C : VCode V) : VA V a11619 := VA_of (envOk C) C.c_lts_May.1 C.c_lts_May.2 (O := []) .nil (by kernel_rfl)
def v230 : VV := .ag [.i .i64 4, .ls [[.s ⟨⟨[120]⟩⟩]], .ls [[.ls [[.s ⟨⟨[97]⟩⟩]]], [.ls [[.s ⟨⟨[97]⟩⟩]]]], v227, v41, v42]
def v231 : VV := .f n_tree_deep_before [v230] []
def a12343 : Ans := ⟨n_tree_deep_rows, [v230, v231], v45⟩
theorem t12343 (C : VCode V) : VA V a12343 := VA_of (envOk C) C.c_tree_deep_rows.1 C.c_tree_deep_rows.2 (O := []) .nil (by kernel_rfl)
def a12344 : Ans := ⟨n_tree_Po, [v228], v45⟩
theorem t12344 (C : VCode V) : VA V a12344 := VA_of (envOk C) C.c_tree_Po.1 C.c_tree_Po.2 (O := [a11619, a12343]) (.cons (t11619 C) (.cons (t12343 C) .nil)) (by kernel_rfl)
def a12356 : Ans := ⟨n_sync_Hb, [v228, v40, v49], v46⟩
theorem t12356 (C : VCode V) : VA V a12356 := VA_of (envOk C) C.c_sync_Hb.1 C.c_sync_Hb.2 (O := [a11619, a1095, a1097, a12344, a2025, a2033, a2071, a2101]) (.cons (t11619 C) (.cons (t1095 C) (.cons (t1097 C) (.cons (t12344 C) (.cons (t2025 C) (.cons (t2033 C) (.cons (t2071 C) (.cons (t2101 C) .nil)))))))) (by kernel_rfl)
def a12358 : Ans := ⟨n_cohe_Is, [v228, v50], .b true⟩
theorem t12358 (C : VCode V) : VA V a12358 := VA_of (envOk C) C.c_cohe_Is.1 C.c_cohe_Is.2 (O := [a12356, a2106]) (.cons (t12356 C) (.cons (t2106 C) .nil)) (by kernel_rfl)
def v232 : VV := .ag [.i .i64 4, .ls [[.s ⟨⟨[120]⟩⟩]], .ls [[.ls [[.s ⟨⟨[97]⟩⟩]]], [.ls [[.s ⟨⟨[97]⟩⟩]]]], v227, v40, v49, .ls [[.ls [[.i .i64 0], [.i .i64 3], [.i .i64 12]]]], v46]
def a12362 : Ans := ⟨n_exec_run_atomic, [v232], .b false⟩
theorem t12362 (C : VCode V) : VA V a12362 := VA_of (envOk C) C.c_exec_run_atomic.1 C.c_exec_run_atomic.2 (O := [a2114]) (.cons (t2114 C) .nil) (by kernel_rfl)
def a12363 : Ans := ⟨n_exec_Atomic, [v228, v50], .b false⟩
theorem t12363 (C : VCode V) : VA V a12363 := VA_of (envOk C) C.c_exec_Atomic.1 C.c_exec_Atomic.2 (O := [a12358, a12356, a12362]) (.cons (t12358 C) (.cons (t12356 C) (.cons (t12362 C) .nil))) (by kernel_rfl)
def a12365 : Ans := ⟨n_cohe_Is, [v228, v52], .b true⟩
theorem t12365 (C : VCode V) : VA V a12365 := VA_of (envOk C) C.c_cohe_Is.1 C.c_cohe_Is.2 (O := [a12356, a2119]) (.cons (t12356 C) (.cons (t2119 C) .nil)) (by kernel_rfl)
def v233 : VV := .ag [.i .i64 4, .ls [[.s ⟨⟨[120]⟩⟩]], .ls [[.ls [[.s ⟨⟨[97]⟩⟩]]], [.ls [[.s ⟨⟨[97]⟩⟩]]]], v227, v40, v49, .ls [[.ls [[.i .i64 0], [.i .i64 12], [.i .i64 3]]]], v46]
def a12368 : Ans := ⟨n_exec_run_atomic, [v233], .b false⟩
theorem t12368 (C : VCode V) : VA V a12368 := VA_of (envOk C) C.c_exec_run_atomic.1 C.c_exec_run_atomic.2 (O := []) .nil (by kernel_rfl)
def a12369 : Ans := ⟨n_exec_Atomic, [v228, v52], .b false⟩
theorem t12369 (C : VCode V) : VA V a12369 := VA_of (envOk C) C.c_exec_Atomic.1 C.c_exec_Atomic.2 (O := [a12365, a12356, a12368]) (.cons (t12365 C) (.cons (t12356 C) (.cons (t12368 C) .nil))) (by kernel_rfl)
def v234 : VV := .fp [.i .i64 4, .ls [[.s ⟨⟨[120]⟩⟩]], .ls [[.ls [[.s ⟨⟨[97]⟩⟩]]], [.ls [[.s ⟨⟨[97]⟩⟩]]]], v227] 0
def v235 : VV := .fp [.i .i64 4, .ls [[.s ⟨⟨[120]⟩⟩]], .ls [[.ls [[.s ⟨⟨[97]⟩⟩]]], [.ls [[.s ⟨⟨[97]⟩⟩]]]], v227, v40, v49, .ls [[.ls [[.i .i64 0], [.i .i64 3], [.i .i64 12]]]]] 0
def a12374 : Ans := ⟨n_cohe_Exec_1, [.i .i64 2, v234, v235], .i .i64 0⟩
theorem t12374 (C : VCode V) : VA V a12374 := VA_of (envOk C) C.c_cohe_Exec_1.1 C.c_cohe_Exec_1.2 (O := []) .nil (by kernel_rfl)
def a12376 : Ans := ⟨n_cohe_Exec_1, [.i .i64 3, v234, v235], .i .i64 1⟩
theorem t12376 (C : VCode V) : VA V a12376 := VA_of (envOk C) C.c_cohe_Exec_1.1 C.c_cohe_Exec_1.2 (O := []) .nil (by kernel_rfl)
def a12379 : Ans := ⟨n_cohe_Exec_1, [.i .i64 11, v234, v235], .i .i64 0⟩
theorem t12379 (C : VCode V) : VA V a12379 := VA_of (envOk C) C.c_cohe_Exec_1.1 C.c_cohe_Exec_1.2 (O := [a2114]) (.cons (t2114 C) .nil) (by kernel_rfl)
def a12381 : Ans := ⟨n_cohe_Exec_1, [.i .i64 12, v234, v235], .i .i64 2⟩
theorem t12381 (C : VCode V) : VA V a12381 := VA_of (envOk C) C.c_cohe_Exec_1.1 C.c_cohe_Exec_1.2 (O := []) .nil (by kernel_rfl)
def a12384 : Ans := ⟨n_exec_Good, [v228, v50], .b false⟩
theorem t12384 (C : VCode V) : VA V a12384 := VA_of (envOk C) C.c_exec_Good.1 C.c_exec_Good.2 (O := [a12358, a12356, a12358, a12356, a2140, a12374, a2148, a12376, a10234, a12379, a2159, a12381, a4229, a12374, a12376, a12374, a12376, a10242, a12379, a12381, a12379, a12381, a4232, a12362]) (.cons (t12358 C) (.cons (t12356 C) (.cons (t12358 C) (.cons (t12356 C) (.cons (t2140 C) (.cons (t12374 C) (.cons (t2148 C) (.cons (t12376 C) (.cons (t10234 C) (.cons (t12379 C) (.cons (t2159 C) (.cons (t12381 C) (.cons (t4229 C) (.cons (t12374 C) (.cons (t12376 C) (.cons (t12374 C) (.cons (t12376 C) (.cons (t10242 C) (.cons (t12379 C) (.cons (t12381 C) (.cons (t12379 C) (.cons (t12381 C) (.cons (t4232 C) (.cons (t12362 C) .nil)))))))))))))))))))))))) (by kernel_rfl)
def v236 : VV := .fp [.i .i64 4, .ls [[.s ⟨⟨[120]⟩⟩]], .ls [[.ls [[.s ⟨⟨[97]⟩⟩]]], [.ls [[.s ⟨⟨[97]⟩⟩]]]], v227, v40, v49, .ls [[.ls [[.i .i64 0], [.i .i64 12], [.i .i64 3]]]]] 0
def a12389 : Ans := ⟨n_cohe_Exec_1, [.i .i64 2, v234, v236], .i .i64 0⟩
theorem t12389 (C : VCode V) : VA V a12389 := VA_of (envOk C) C.c_cohe_Exec_1.1 C.c_cohe_Exec_1.2 (O := []) .nil (by kernel_rfl)
def a12391 : Ans := ⟨n_cohe_Exec_1, [.i .i64 3, v234, v236], .i .i64 2⟩
theorem t12391 (C : VCode V) : VA V a12391 := VA_of (envOk C) C.c_cohe_Exec_1.1 C.c_cohe_Exec_1.2 (O := []) .nil (by kernel_rfl)
def a12394 : Ans := ⟨n_cohe_Exec_1, [.i .i64 11, v234, v236], .i .i64 0⟩
theorem t12394 (C : VCode V) : VA V a12394 := VA_of (envOk C) C.c_cohe_Exec_1.1 C.c_cohe_Exec_1.2 (O := [a2114]) (.cons (t2114 C) .nil) (by kernel_rfl)
def a12396 : Ans := ⟨n_cohe_Exec_1, [.i .i64 12, v234, v236], .i .i64 1⟩
theorem t12396 (C : VCode V) : VA V a12396 := VA_of (envOk C) C.c_cohe_Exec_1.1 C.c_cohe_Exec_1.2 (O := []) .nil (by kernel_rfl)
def a12399 : Ans := ⟨n_exec_Good, [v228, v52], .b false⟩
theorem t12399 (C : VCode V) : VA V a12399 := VA_of (envOk C) C.c_exec_Good.1 C.c_exec_Good.2 (O := [a12365, a12356, a12365, a12356, a2140, a12389, a2148, a12391, a10255, a12394, a2159, a12396, a4250, a12389, a12391, a12389, a12391, a10263, a12394, a12396, a12394, a12396, a4253, a12368]) (.cons (t12365 C) (.cons (t12356 C) (.cons (t12365 C) (.cons (t12356 C) (.cons (t2140 C) (.cons (t12389 C) (.cons (t2148 C) (.cons (t12391 C) (.cons (t10255 C) (.cons (t12394 C) (.cons (t2159 C) (.cons (t12396 C) (.cons (t4250 C) (.cons (t12389 C) (.cons (t12391 C) (.cons (t12389 C) (.cons (t12391 C) (.cons (t10263 C) (.cons (t12394 C) (.cons (t12396 C) (.cons (t12394 C) (.cons (t12396 C) (.cons (t4253 C) (.cons (t12368 C) .nil)))))))))))))))))))))))) (by kernel_rfl)
def a12422 : Ans := ⟨n_sync_Hb, [v228, v199, v63], v200⟩
theorem t12422 (C : VCode V) : VA V a12422 := VA_of (envOk C) C.c_sync_Hb.1 C.c_sync_Hb.2 (O := [a11619, a10267, a1097, a12344, a10315, a10323, a10323, a10368, a10396]) (.cons (t11619 C) (.cons (t10267 C) (.cons (t1097 C) (.cons (t12344 C) (.cons (t10315 C) (.cons (t10323 C) (.cons (t10323 C) (.cons (t10368 C) (.cons (t10396 C) .nil))))))))) (by kernel_rfl)
def a12424 : Ans := ⟨n_cohe_Is, [v228, v202], .b true⟩
theorem t12424 (C : VCode V) : VA V a12424 := VA_of (envOk C) C.c_cohe_Is.1 C.c_cohe_Is.2 (O := [a12422, a10401]) (.cons (t12422 C) (.cons (t10401 C) .nil)) (by kernel_rfl)
def v237 : VV := .ag [.i .i64 4, .ls [[.s ⟨⟨[120]⟩⟩]], .ls [[.ls [[.s ⟨⟨[97]⟩⟩]]], [.ls [[.s ⟨⟨[97]⟩⟩]]]], v227, v199, v63, .ls [[.ls [[.i .i64 0], [.i .i64 3], [.i .i64 16]]]], v200]
def a12428 : Ans := ⟨n_exec_run_atomic, [v237], .b true⟩
theorem t12428 (C : VCode V) : VA V a12428 := VA_of (envOk C) C.c_exec_run_atomic.1 C.c_exec_run_atomic.2 (O := [a10409]) (.cons (t10409 C) .nil) (by kernel_rfl)
def a12429 : Ans := ⟨n_exec_Atomic, [v228, v202], .b true⟩
theorem t12429 (C : VCode V) : VA V a12429 := VA_of (envOk C) C.c_exec_Atomic.1 C.c_exec_Atomic.2 (O := [a12424, a12422, a12428]) (.cons (t12424 C) (.cons (t12422 C) (.cons (t12428 C) .nil))) (by kernel_rfl)
def v238 : VV := .fp [.i .i64 4, .ls [[.s ⟨⟨[120]⟩⟩]], .ls [[.ls [[.s ⟨⟨[97]⟩⟩]]], [.ls [[.s ⟨⟨[97]⟩⟩]]]], v227, v199, v63, .ls [[.ls [[.i .i64 0], [.i .i64 3], [.i .i64 16]]]]] 0
def a12434 : Ans := ⟨n_cohe_Exec_1, [.i .i64 2, v234, v238], .i .i64 0⟩
theorem t12434 (C : VCode V) : VA V a12434 := VA_of (envOk C) C.c_cohe_Exec_1.1 C.c_cohe_Exec_1.2 (O := []) .nil (by kernel_rfl)
def a12436 : Ans := ⟨n_cohe_Exec_1, [.i .i64 3, v234, v238], .i .i64 1⟩
theorem t12436 (C : VCode V) : VA V a12436 := VA_of (envOk C) C.c_cohe_Exec_1.1 C.c_cohe_Exec_1.2 (O := []) .nil (by kernel_rfl)
def a12439 : Ans := ⟨n_cohe_Exec_1, [.i .i64 15, v234, v238], .i .i64 1⟩
theorem t12439 (C : VCode V) : VA V a12439 := VA_of (envOk C) C.c_cohe_Exec_1.1 C.c_cohe_Exec_1.2 (O := [a10409]) (.cons (t10409 C) .nil) (by kernel_rfl)
def a12441 : Ans := ⟨n_cohe_Exec_1, [.i .i64 16, v234, v238], .i .i64 2⟩
theorem t12441 (C : VCode V) : VA V a12441 := VA_of (envOk C) C.c_cohe_Exec_1.1 C.c_cohe_Exec_1.2 (O := []) .nil (by kernel_rfl)
def a12451 : Ans := ⟨n_exec_run_behind, [v237, .i .i64 0], .i .u64 65544⟩
theorem t12451 (C : VCode V) : VA V a12451 := VA_of (envOk C) C.c_exec_run_behind.1 C.c_exec_run_behind.2 (O := []) .nil (by kernel_rfl)
def a12463 : Ans := ⟨n_exec_run_behind, [v237, .i .i64 3], .i .u64 65536⟩
theorem t12463 (C : VCode V) : VA V a12463 := VA_of (envOk C) C.c_exec_run_behind.1 C.c_exec_run_behind.2 (O := []) .nil (by kernel_rfl)
def a12489 : Ans := ⟨n_exec_Good, [v228, v202], .b true⟩
theorem t12489 (C : VCode V) : VA V a12489 := VA_of (envOk C) C.c_exec_Good.1 C.c_exec_Good.2 (O := [a12424, a12422, a12424, a12422, a10417, a12434, a2148, a12436, a10234, a12439, a10430, a12441, a12434, a12436, a12434, a12436, a10242, a12439, a12441, a12439, a12441, a12428, a12451, a12451, a12463, a10409, a12463, a10476, a10521, a10552, a10554, a2383]) (.cons (t12424 C) (.cons (t12422 C) (.cons (t12424 C) (.cons (t12422 C) (.cons (t10417 C) (.cons (t12434 C) (.cons (t2148 C) (.cons (t12436 C) (.cons (t10234 C) (.cons (t12439 C) (.cons (t10430 C) (.cons (t12441 C) (.cons (t12434 C) (.cons (t12436 C) (.cons (t12434 C) (.cons (t12436 C) (.cons (t10242 C) (.cons (t12439 C) (.cons (t12441 C) (.cons (t12439 C) (.cons (t12441 C) (.cons (t12428 C) (.cons (t12451 C) (.cons (t12451 C) (.cons (t12463 C) (.cons (t10409 C) (.cons (t12463 C) (.cons (t10476 C) (.cons (t10521 C) (.cons (t10552 C) (.cons (t10554 C) (.cons (t2383 C) .nil)))))))))))))))))))))))))))))))) (by kernel_rfl)
def a12498 : Ans := ⟨n_witheref17_ExecForm, [v228, v202], .b true⟩
theorem t12498 (C : VCode V) : VA V a12498 := VA_of (envOk C) C.c_witheref17_ExecForm.1 C.c_witheref17_ExecForm.2 (O := [a10576]) (.cons (t10576 C) .nil) (by kernel_rfl)
end
end Go.AM
