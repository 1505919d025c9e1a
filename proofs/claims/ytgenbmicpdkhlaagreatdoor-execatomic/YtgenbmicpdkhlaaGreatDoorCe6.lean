/-
  Certificates: what calls answer, each carried out by the kernel.
-/
import Derived.Test.YtgenbmicpdkhlaaGreatDoorCeE
import Derived.KernelRfl
import Derived.Test.YtgenbmicpdkhlaaGreatDoorCe0
import Derived.Test.YtgenbmicpdkhlaaGreatDoorCe1
import Derived.Test.YtgenbmicpdkhlaaGreatDoorCe2
import Derived.Test.YtgenbmicpdkhlaaGreatDoorCe5
set_option linter.unusedVariables false
set_option linter.unusedSimpArgs false
set_option linter.unusedSectionVars false
set_option linter.unnecessarySimpa false
set_option maxRecDepth 1000000
set_option maxHeartbeats 4000000
namespace Go.AM
section
variable {V : VProg}
def v144 : VV := .ls [[v71], [v71]]
def v145 : VV := .ag [.s ⟨⟨[97]⟩⟩, .i .i64 4, .ls [[.s ⟨⟨[120]⟩⟩, .i .i64 0]], v144, .i .i64 1, .i .i64 1, .i .i64 0, .s ⟨⟨[120]⟩⟩, .i .i64 0, .ls []]
def v146 : VV := .ls [[.i .i64 (-1), .i .i64 (-1), .i .i64 3, .i .i64 0, .i .i64 0, .i .i64 0, .b false, .b false, .ls []], [.i .i64 0, .i .i64 (-1), .i .i64 1, .i .i64 0, .i .i64 0, .i .i64 0, .b false, .b false, .ls []], [.i .i64 0, .i .i64 1, .i .i64 2, .i .i64 0, .i .i64 0, .i .i64 0, .b false, .b false, .ls []], [.i .i64 0, .i .i64 2, .i .i64 3, .i .i64 0, .i .i64 0, .i .i64 1, .b true, .b true, .ls [[.i .i64 0]]], [.i .i64 0, .i .i64 1, .i .i64 2, .i .i64 0, .i .i64 0, .i .i64 1, .b false, .b false, .ls []], [.i .i64 0, .i .i64 4, .i .i64 3, .i .i64 0, .i .i64 0, .i .i64 2, .b true, .b true, .ls [[.i .i64 1]]], [.i .i64 0, .i .i64 1, .i .i64 2, .i .i64 0, .i .i64 0, .i .i64 2, .b false, .b false, .ls []], [.i .i64 0, .i .i64 6, .i .i64 3, .i .i64 0, .i .i64 0, .i .i64 3, .b true, .b true, .ls [[.i .i64 2]]], [.i .i64 0, .i .i64 1, .i .i64 2, .i .i64 0, .i .i64 0, .i .i64 3, .b false, .b false, .ls []], [.i .i64 0, .i .i64 8, .i .i64 3, .i .i64 0, .i .i64 0, .i .i64 0, .b true, .b true, .ls [[.i .i64 3]]], [.i .i64 1, .i .i64 (-1), .i .i64 1, .i .i64 0, .i .i64 0, .i .i64 0, .b false, .b false, .ls []], [.i .i64 1, .i .i64 10, .i .i64 2, .i .i64 0, .i .i64 0, .i .i64 0, .b false, .b false, .ls []], [.i .i64 1, .i .i64 11, .i .i64 3, .i .i64 0, .i .i64 0, .i .i64 1, .b true, .b true, .ls [[.i .i64 0]]], [.i .i64 1, .i .i64 10, .i .i64 2, .i .i64 0, .i .i64 0, .i .i64 1, .b false, .b false, .ls []], [.i .i64 1, .i .i64 13, .i .i64 3, .i .i64 0, .i .i64 0, .i .i64 2, .b true, .b true, .ls [[.i .i64 1]]], [.i .i64 1, .i .i64 10, .i .i64 2, .i .i64 0, .i .i64 0, .i .i64 2, .b false, .b false, .ls []], [.i .i64 1, .i .i64 15, .i .i64 3, .i .i64 0, .i .i64 0, .i .i64 3, .b true, .b true, .ls [[.i .i64 2]]], [.i .i64 1, .i .i64 10, .i .i64 2, .i .i64 0, .i .i64 0, .i .i64 3, .b false, .b false, .ls []], [.i .i64 1, .i .i64 17, .i .i64 3, .i .i64 0, .i .i64 0, .i .i64 0, .b true, .b true, .ls [[.i .i64 3]]]]
def v147 : VV := .ag [.i .i64 4, .ls [[.s ⟨⟨[120]⟩⟩]], .ls [[.ls [[.s ⟨⟨[97]⟩⟩]]], [.ls [[.s ⟨⟨[97]⟩⟩]]]], v146]
def v148 : VV := .tu [v147, .b true]
def a6518 : Ans := ⟨n_withemade_Tree, [v145], v148⟩
theorem t6518 (C : VCode V) : VA V a6518 := VA_of (envOk C) C.c_withemade_Tree.1 C.c_withemade_Tree.2 (O := [a27, a9, a27, a2403, a27, a2403, a1002, a2406, a2406, a2408, a2408, a2408, a2408, a2408, a2408, a2408, a2408]) (.cons (t27 C) (.cons (t9 C) (.cons (t27 C) (.cons (t2403 C) (.cons (t27 C) (.cons (t2403 C) (.cons (t1002 C) (.cons (t2406 C) (.cons (t2406 C) (.cons (t2408 C) (.cons (t2408 C) (.cons (t2408 C) (.cons (t2408 C) (.cons (t2408 C) (.cons (t2408 C) (.cons (t2408 C) (.cons (t2408 C) .nil))))))))))))))))) (by kernel_rfl)
def a6594 : Ans := ⟨n_lts_May, [v147], .b true⟩
theorem t6594 (C : VCode V) : VA V a6594 := VA_of (envOk C) C.c_lts_May.1 C.c_lts_May.2 (O := []) .nil (by kernel_rfl)
def v149 : VV := .ag [.i .i64 4, .ls [[.s ⟨⟨[120]⟩⟩]], .ls [[.ls [[.s ⟨⟨[97]⟩⟩]]], [.ls [[.s ⟨⟨[97]⟩⟩]]]], v146, v41, v42]
def v150 : VV := .f n_tree_deep_before [v149] []
def a7318 : Ans := ⟨n_tree_deep_rows, [v149, v150], v45⟩
theorem t7318 (C : VCode V) : VA V a7318 := VA_of (envOk C) C.c_tree_deep_rows.1 C.c_tree_deep_rows.2 (O := []) .nil (by kernel_rfl)
def a7319 : Ans := ⟨n_tree_Po, [v147], v45⟩
theorem t7319 (C : VCode V) : VA V a7319 := VA_of (envOk C) C.c_tree_Po.1 C.c_tree_Po.2 (O := [a6594, a7318]) (.cons (t6594 C) (.cons (t7318 C) .nil)) (by kernel_rfl)
def a7331 : Ans := ⟨n_sync_Hb, [v147, v40, v49], v46⟩
theorem t7331 (C : VCode V) : VA V a7331 := VA_of (envOk C) C.c_sync_Hb.1 C.c_sync_Hb.2 (O := [a6594, a1095, a1097, a7319, a2025, a2033, a2071, a2101]) (.cons (t6594 C) (.cons (t1095 C) (.cons (t1097 C) (.cons (t7319 C) (.cons (t2025 C) (.cons (t2033 C) (.cons (t2071 C) (.cons (t2101 C) .nil)))))))) (by kernel_rfl)
def a7333 : Ans := ⟨n_cohe_Is, [v147, v50], .b true⟩
theorem t7333 (C : VCode V) : VA V a7333 := VA_of (envOk C) C.c_cohe_Is.1 C.c_cohe_Is.2 (O := [a7331, a2106]) (.cons (t7331 C) (.cons (t2106 C) .nil)) (by kernel_rfl)
def v151 : VV := .ag [.i .i64 4, .ls [[.s ⟨⟨[120]⟩⟩]], .ls [[.ls [[.s ⟨⟨[97]⟩⟩]]], [.ls [[.s ⟨⟨[97]⟩⟩]]]], v146, v40, v49, .ls [[.ls [[.i .i64 0], [.i .i64 3], [.i .i64 12]]]], v46]
def a7337 : Ans := ⟨n_exec_run_atomic, [v151], .b false⟩
theorem t7337 (C : VCode V) : VA V a7337 := VA_of (envOk C) C.c_exec_run_atomic.1 C.c_exec_run_atomic.2 (O := [a2114]) (.cons (t2114 C) .nil) (by kernel_rfl)
def a7338 : Ans := ⟨n_exec_Atomic, [v147, v50], .b false⟩
theorem t7338 (C : VCode V) : VA V a7338 := VA_of (envOk C) C.c_exec_Atomic.1 C.c_exec_Atomic.2 (O := [a7333, a7331, a7337]) (.cons (t7333 C) (.cons (t7331 C) (.cons (t7337 C) .nil))) (by kernel_rfl)
def a7340 : Ans := ⟨n_cohe_Is, [v147, v52], .b true⟩
theorem t7340 (C : VCode V) : VA V a7340 := VA_of (envOk C) C.c_cohe_Is.1 C.c_cohe_Is.2 (O := [a7331, a2119]) (.cons (t7331 C) (.cons (t2119 C) .nil)) (by kernel_rfl)
def v152 : VV := .ag [.i .i64 4, .ls [[.s ⟨⟨[120]⟩⟩]], .ls [[.ls [[.s ⟨⟨[97]⟩⟩]]], [.ls [[.s ⟨⟨[97]⟩⟩]]]], v146, v40, v49, .ls [[.ls [[.i .i64 0], [.i .i64 12], [.i .i64 3]]]], v46]
def a7343 : Ans := ⟨n_exec_run_atomic, [v152], .b false⟩
theorem t7343 (C : VCode V) : VA V a7343 := VA_of (envOk C) C.c_exec_run_atomic.1 C.c_exec_run_atomic.2 (O := []) .nil (by kernel_rfl)
def a7344 : Ans := ⟨n_exec_Atomic, [v147, v52], .b false⟩
theorem t7344 (C : VCode V) : VA V a7344 := VA_of (envOk C) C.c_exec_Atomic.1 C.c_exec_Atomic.2 (O := [a7340, a7331, a7343]) (.cons (t7340 C) (.cons (t7331 C) (.cons (t7343 C) .nil))) (by kernel_rfl)
def v153 : VV := .fp [.i .i64 4, .ls [[.s ⟨⟨[120]⟩⟩]], .ls [[.ls [[.s ⟨⟨[97]⟩⟩]]], [.ls [[.s ⟨⟨[97]⟩⟩]]]], v146] 0
def v154 : VV := .fp [.i .i64 4, .ls [[.s ⟨⟨[120]⟩⟩]], .ls [[.ls [[.s ⟨⟨[97]⟩⟩]]], [.ls [[.s ⟨⟨[97]⟩⟩]]]], v146, v40, v49, .ls [[.ls [[.i .i64 0], [.i .i64 3], [.i .i64 12]]]]] 0
def a7349 : Ans := ⟨n_cohe_Exec_1, [.i .i64 2, v153, v154], .i .i64 0⟩
theorem t7349 (C : VCode V) : VA V a7349 := VA_of (envOk C) C.c_cohe_Exec_1.1 C.c_cohe_Exec_1.2 (O := []) .nil (by kernel_rfl)
def a7351 : Ans := ⟨n_cohe_Exec_1, [.i .i64 3, v153, v154], .i .i64 1⟩
theorem t7351 (C : VCode V) : VA V a7351 := VA_of (envOk C) C.c_cohe_Exec_1.1 C.c_cohe_Exec_1.2 (O := []) .nil (by kernel_rfl)
def a7354 : Ans := ⟨n_cohe_Exec_1, [.i .i64 11, v153, v154], .i .i64 0⟩
theorem t7354 (C : VCode V) : VA V a7354 := VA_of (envOk C) C.c_cohe_Exec_1.1 C.c_cohe_Exec_1.2 (O := [a2114]) (.cons (t2114 C) .nil) (by kernel_rfl)
def a7356 : Ans := ⟨n_cohe_Exec_1, [.i .i64 12, v153, v154], .i .i64 2⟩
theorem t7356 (C : VCode V) : VA V a7356 := VA_of (envOk C) C.c_cohe_Exec_1.1 C.c_cohe_Exec_1.2 (O := []) .nil (by kernel_rfl)
def a7359 : Ans := ⟨n_exec_Good, [v147, v50], .b false⟩
theorem t7359 (C : VCode V) : VA V a7359 := VA_of (envOk C) C.c_exec_Good.1 C.c_exec_Good.2 (O := [a7333, a7331, a7333, a7331, a2140, a7349, a2148, a7351, a6169, a7354, a2159, a7356, a3252, a7349, a7351, a7349, a7351, a6177, a7354, a7356, a7354, a7356, a3255, a7337]) (.cons (t7333 C) (.cons (t7331 C) (.cons (t7333 C) (.cons (t7331 C) (.cons (t2140 C) (.cons (t7349 C) (.cons (t2148 C) (.cons (t7351 C) (.cons (t6169 C) (.cons (t7354 C) (.cons (t2159 C) (.cons (t7356 C) (.cons (t3252 C) (.cons (t7349 C) (.cons (t7351 C) (.cons (t7349 C) (.cons (t7351 C) (.cons (t6177 C) (.cons (t7354 C) (.cons (t7356 C) (.cons (t7354 C) (.cons (t7356 C) (.cons (t3255 C) (.cons (t7337 C) .nil)))))))))))))))))))))))) (by kernel_rfl)
def v155 : VV := .fp [.i .i64 4, .ls [[.s ⟨⟨[120]⟩⟩]], .ls [[.ls [[.s ⟨⟨[97]⟩⟩]]], [.ls [[.s ⟨⟨[97]⟩⟩]]]], v146, v40, v49, .ls [[.ls [[.i .i64 0], [.i .i64 12], [.i .i64 3]]]]] 0
def a7364 : Ans := ⟨n_cohe_Exec_1, [.i .i64 2, v153, v155], .i .i64 0⟩
theorem t7364 (C : VCode V) : VA V a7364 := VA_of (envOk C) C.c_cohe_Exec_1.1 C.c_cohe_Exec_1.2 (O := []) .nil (by kernel_rfl)
def a7366 : Ans := ⟨n_cohe_Exec_1, [.i .i64 3, v153, v155], .i .i64 2⟩
theorem t7366 (C : VCode V) : VA V a7366 := VA_of (envOk C) C.c_cohe_Exec_1.1 C.c_cohe_Exec_1.2 (O := []) .nil (by kernel_rfl)
def a7369 : Ans := ⟨n_cohe_Exec_1, [.i .i64 11, v153, v155], .i .i64 0⟩
theorem t7369 (C : VCode V) : VA V a7369 := VA_of (envOk C) C.c_cohe_Exec_1.1 C.c_cohe_Exec_1.2 (O := [a2114]) (.cons (t2114 C) .nil) (by kernel_rfl)
def a7371 : Ans := ⟨n_cohe_Exec_1, [.i .i64 12, v153, v155], .i .i64 1⟩
theorem t7371 (C : VCode V) : VA V a7371 := VA_of (envOk C) C.c_cohe_Exec_1.1 C.c_cohe_Exec_1.2 (O := []) .nil (by kernel_rfl)
def a7374 : Ans := ⟨n_exec_Good, [v147, v52], .b false⟩
theorem t7374 (C : VCode V) : VA V a7374 := VA_of (envOk C) C.c_exec_Good.1 C.c_exec_Good.2 (O := [a7340, a7331, a7340, a7331, a2140, a7364, a2148, a7366, a6190, a7369, a2159, a7371, a3273, a7364, a7366, a7364, a7366, a6198, a7369, a7371, a7369, a7371, a3276, a7343]) (.cons (t7340 C) (.cons (t7331 C) (.cons (t7340 C) (.cons (t7331 C) (.cons (t2140 C) (.cons (t7364 C) (.cons (t2148 C) (.cons (t7366 C) (.cons (t6190 C) (.cons (t7369 C) (.cons (t2159 C) (.cons (t7371 C) (.cons (t3273 C) (.cons (t7364 C) (.cons (t7366 C) (.cons (t7364 C) (.cons (t7366 C) (.cons (t6198 C) (.cons (t7369 C) (.cons (t7371 C) (.cons (t7369 C) (.cons (t7371 C) (.cons (t3276 C) (.cons (t7343 C) .nil)))))))))))))))))))))))) (by kernel_rfl)
def a7397 : Ans := ⟨n_sync_Hb, [v147, v132, v63], v133⟩
theorem t7397 (C : VCode V) : VA V a7397 := VA_of (envOk C) C.c_sync_Hb.1 C.c_sync_Hb.2 (O := [a6594, a6202, a1097, a7319, a6250, a6258, a6258, a6303, a6331]) (.cons (t6594 C) (.cons (t6202 C) (.cons (t1097 C) (.cons (t7319 C) (.cons (t6250 C) (.cons (t6258 C) (.cons (t6258 C) (.cons (t6303 C) (.cons (t6331 C) .nil))))))))) (by kernel_rfl)
def a7399 : Ans := ⟨n_cohe_Is, [v147, v135], .b true⟩
theorem t7399 (C : VCode V) : VA V a7399 := VA_of (envOk C) C.c_cohe_Is.1 C.c_cohe_Is.2 (O := [a7397, a6336]) (.cons (t7397 C) (.cons (t6336 C) .nil)) (by kernel_rfl)
def v156 : VV := .ag [.i .i64 4, .ls [[.s ⟨⟨[120]⟩⟩]], .ls [[.ls [[.s ⟨⟨[97]⟩⟩]]], [.ls [[.s ⟨⟨[97]⟩⟩]]]], v146, v132, v63, .ls [[.ls [[.i .i64 0], [.i .i64 3], [.i .i64 14]]]], v133]
def a7403 : Ans := ⟨n_exec_run_atomic, [v156], .b true⟩
theorem t7403 (C : VCode V) : VA V a7403 := VA_of (envOk C) C.c_exec_run_atomic.1 C.c_exec_run_atomic.2 (O := [a6344]) (.cons (t6344 C) .nil) (by kernel_rfl)
def a7404 : Ans := ⟨n_exec_Atomic, [v147, v135], .b true⟩
theorem t7404 (C : VCode V) : VA V a7404 := VA_of (envOk C) C.c_exec_Atomic.1 C.c_exec_Atomic.2 (O := [a7399, a7397, a7403]) (.cons (t7399 C) (.cons (t7397 C) (.cons (t7403 C) .nil))) (by kernel_rfl)
def v157 : VV := .fp [.i .i64 4, .ls [[.s ⟨⟨[120]⟩⟩]], .ls [[.ls [[.s ⟨⟨[97]⟩⟩]]], [.ls [[.s ⟨⟨[97]⟩⟩]]]], v146, v132, v63, .ls [[.ls [[.i .i64 0], [.i .i64 3], [.i .i64 14]]]]] 0
def a7409 : Ans := ⟨n_cohe_Exec_1, [.i .i64 2, v153, v157], .i .i64 0⟩
theorem t7409 (C : VCode V) : VA V a7409 := VA_of (envOk C) C.c_cohe_Exec_1.1 C.c_cohe_Exec_1.2 (O := []) .nil (by kernel_rfl)
def a7411 : Ans := ⟨n_cohe_Exec_1, [.i .i64 3, v153, v157], .i .i64 1⟩
theorem t7411 (C : VCode V) : VA V a7411 := VA_of (envOk C) C.c_cohe_Exec_1.1 C.c_cohe_Exec_1.2 (O := []) .nil (by kernel_rfl)
def a7414 : Ans := ⟨n_cohe_Exec_1, [.i .i64 13, v153, v157], .i .i64 1⟩
theorem t7414 (C : VCode V) : VA V a7414 := VA_of (envOk C) C.c_cohe_Exec_1.1 C.c_cohe_Exec_1.2 (O := [a6344]) (.cons (t6344 C) .nil) (by kernel_rfl)
def a7416 : Ans := ⟨n_cohe_Exec_1, [.i .i64 14, v153, v157], .i .i64 2⟩
theorem t7416 (C : VCode V) : VA V a7416 := VA_of (envOk C) C.c_cohe_Exec_1.1 C.c_cohe_Exec_1.2 (O := []) .nil (by kernel_rfl)
def a7426 : Ans := ⟨n_exec_run_behind, [v156, .i .i64 0], .i .u64 16392⟩
theorem t7426 (C : VCode V) : VA V a7426 := VA_of (envOk C) C.c_exec_run_behind.1 C.c_exec_run_behind.2 (O := []) .nil (by kernel_rfl)
def a7438 : Ans := ⟨n_exec_run_behind, [v156, .i .i64 3], .i .u64 16384⟩
theorem t7438 (C : VCode V) : VA V a7438 := VA_of (envOk C) C.c_exec_run_behind.1 C.c_exec_run_behind.2 (O := []) .nil (by kernel_rfl)
def a7464 : Ans := ⟨n_exec_Good, [v147, v135], .b true⟩
theorem t7464 (C : VCode V) : VA V a7464 := VA_of (envOk C) C.c_exec_Good.1 C.c_exec_Good.2 (O := [a7399, a7397, a7399, a7397, a6352, a7409, a2148, a7411, a6169, a7414, a6365, a7416, a7409, a7411, a7409, a7411, a6177, a7414, a7416, a7414, a7416, a7403, a7426, a7426, a7438, a6344, a7438, a6411, a6456, a6487, a6489, a2383]) (.cons (t7399 C) (.cons (t7397 C) (.cons (t7399 C) (.cons (t7397 C) (.cons (t6352 C) (.cons (t7409 C) (.cons (t2148 C) (.cons (t7411 C) (.cons (t6169 C) (.cons (t7414 C) (.cons (t6365 C) (.cons (t7416 C) (.cons (t7409 C) (.cons (t7411 C) (.cons (t7409 C) (.cons (t7411 C) (.cons (t6177 C) (.cons (t7414 C) (.cons (t7416 C) (.cons (t7414 C) (.cons (t7416 C) (.cons (t7403 C) (.cons (t7426 C) (.cons (t7426 C) (.cons (t7438 C) (.cons (t6344 C) (.cons (t7438 C) (.cons (t6411 C) (.cons (t6456 C) (.cons (t6487 C) (.cons (t6489 C) (.cons (t2383 C) .nil)))))))))))))))))))))))))))))))) (by kernel_rfl)
def a7473 : Ans := ⟨n_witheref17_ExecForm, [v147, v135], .b true⟩
theorem t7473 (C : VCode V) : VA V a7473 := VA_of (envOk C) C.c_witheref17_ExecForm.1 C.c_witheref17_ExecForm.2 (O := [a6511]) (.cons (t6511 C) .nil) (by kernel_rfl)
end
end Go.AM
