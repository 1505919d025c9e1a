/-
  Certificates: what calls answer, each carried out by the kernel.
-/
import Derived.Test.YtgenbmicpdkhlaaGreatDoorCeE
import Derived.KernelRfl
import Derived.Test.YtgenbmicpdkhlaaGreatDoorCe0
import Derived.Test.YtgenbmicpdkhlaaGreatDoorCe1
import Derived.Test.YtgenbmicpdkhlaaGreatDoorCe2
import Derived.Test.YtgenbmicpdkhlaaGreatDoorCe3
import Derived.Test.YtgenbmicpdkhlaaGreatDoorCe5
set_option linter.unusedVariables false
set_option linter.unusedSimpArgs false
set_option linter.unusedSectionVars false
set_option linter.unnecessarySimpa false
set_option maxRecDepth 1000000
set_option maxHeartbeats 4000000
namespace Go.AM
section
variable {V : VProg}
def v158 : VV := .ls [[v71], [v87]]
def v159 : VV := .ag [.s ⟨⟨[97]⟩⟩, .i .i64 4, .ls [[.s ⟨⟨[120]⟩⟩, .i .i64 0]], v158, .i .i64 1, .i .i64 1, .i .i64 0, .s ⟨⟨[120]⟩⟩, .i .i64 0, .ls []]
def v160 : VV := .ls [[.i .i64 (-1), .i .i64 (-1), .i .i64 3, .i .i64 0, .i .i64 0, .i .i64 0, .b false, .b false, .ls []], [.i .i64 0, .i .i64 (-1), .i .i64 1, .i .i64 0, .i .i64 0, .i .i64 0, .b false, .b false, .ls []], [.i .i64 0, .i .i64 1, .i .i64 2, .i .i64 0, .i .i64 0, .i .i64 0, .b false, .b false, .ls []], [.i .i64 0, .i .i64 2, .i .i64 3, .i .i64 0, .i .i64 0, .i .i64 1, .b true, .b true, .ls [[.i .i64 0]]], [.i .i64 0, .i .i64 1, .i .i64 2, .i .i64 0, .i .i64 0, .i .i64 1, .b false, .b false, .ls []], [.i .i64 0, .i .i64 4, .i .i64 3, .i .i64 0, .i .i64 0, .i .i64 2, .b true, .b true, .ls [[.i .i64 1]]], [.i .i64 0, .i .i64 1, .i .i64 2, .i .i64 0, .i .i64 0, .i .i64 2, .b false, .b false, .ls []], [.i .i64 0, .i .i64 6, .i .i64 3, .i .i64 0, .i .i64 0, .i .i64 3, .b true, .b true, .ls [[.i .i64 2]]], [.i .i64 0, .i .i64 1, .i .i64 2, .i .i64 0, .i .i64 0, .i .i64 3, .b false, .b false, .ls []], [.i .i64 0, .i .i64 8, .i .i64 3, .i .i64 0, .i .i64 0, .i .i64 0, .b true, .b true, .ls [[.i .i64 3]]], [.i .i64 1, .i .i64 (-1), .i .i64 1, .i .i64 0, .i .i64 0, .i .i64 0, .b false, .b false, .ls []], [.i .i64 1, .i .i64 10, .i .i64 2, .i .i64 0, .i .i64 0, .i .i64 0, .b false, .b false, .ls []], [.i .i64 1, .i .i64 11, .i .i64 3, .i .i64 0, .i .i64 0, .i .i64 2, .b true, .b true, .ls [[.i .i64 0]]], [.i .i64 1, .i .i64 10, .i .i64 2, .i .i64 0, .i .i64 0, .i .i64 1, .b false, .b false, .ls []], [.i .i64 1, .i .i64 13, .i .i64 3, .i .i64 0, .i .i64 0, .i .i64 3, .b true, .b true, .ls [[.i .i64 1]]], [.i .i64 1, .i .i64 10, .i .i64 2, .i .i64 0, .i .i64 0, .i .i64 2, .b false, .b false, .ls []], [.i .i64 1, .i .i64 15, .i .i64 3, .i .i64 0, .i .i64 0, .i .i64 0, .b true, .b true, .ls [[.i .i64 2]]], [.i .i64 1, .i .i64 10, .i .i64 2, .i .i64 0, .i .i64 0, .i .i64 3, .b false, .b false, .ls []], [.i .i64 1, .i .i64 17, .i .i64 3, .i .i64 0, .i .i64 0, .i .i64 1, .b true, .b true, .ls [[.i .i64 3]]]]
def v161 : VV := .ag [.i .i64 4, .ls [[.s ⟨⟨[120]⟩⟩]], .ls [[.ls [[.s ⟨⟨[97]⟩⟩]]], [.ls [[.s ⟨⟨[97]⟩⟩]]]], v160]
def v162 : VV := .tu [v161, .b true]
def a7478 : Ans := ⟨n_withemade_Tree, [v159], v162⟩
theorem t7478 (C : VCode V) : VA V a7478 := VA_of (envOk C) C.c_withemade_Tree.1 C.c_withemade_Tree.2 (O := [a27, a9, a27, a2403, a27, a3379, a1002, a2406, a3382, a2408, a2408, a2408, a2408, a3385, a3385, a3385, a3385]) (.cons (t27 C) (.cons (t9 C) (.cons (t27 C) (.cons (t2403 C) (.cons (t27 C) (.cons (t3379 C) (.cons (t1002 C) (.cons (t2406 C) (.cons (t3382 C) (.cons (t2408 C) (.cons (t2408 C) (.cons (t2408 C) (.cons (t2408 C) (.cons (t3385 C) (.cons (t3385 C) (.cons (t3385 C) (.cons (t3385 C) .nil))))))))))))))))) (by kernel_rfl)
def a7554 : Ans := ⟨n_lts_May, [v161], .b true⟩
theorem t7554 (C : VCode V) : VA V a7554 := VA_of (envOk C) C.c_lts_May.1 C.c_lts_May.2 (O := []) .nil (by kernel_rfl)
def v163 : VV := .ag [.i .i64 4, .ls [[.s ⟨⟨[120]⟩⟩]], .ls [[.ls [[.s ⟨⟨[97]⟩⟩]]], [.ls [[.s ⟨⟨[97]⟩⟩]]]], v160, v41, v42]
def v164 : VV := .f n_tree_deep_before [v163] []
def a8278 : Ans := ⟨n_tree_deep_rows, [v163, v164], v45⟩
theorem t8278 (C : VCode V) : VA V a8278 := VA_of (envOk C) C.c_tree_deep_rows.1 C.c_tree_deep_rows.2 (O := []) .nil (by kernel_rfl)
def a8279 : Ans := ⟨n_tree_Po, [v161], v45⟩
theorem t8279 (C : VCode V) : VA V a8279 := VA_of (envOk C) C.c_tree_Po.1 C.c_tree_Po.2 (O := [a7554, a8278]) (.cons (t7554 C) (.cons (t8278 C) .nil)) (by kernel_rfl)
def a8291 : Ans := ⟨n_sync_Hb, [v161, v40, v49], v46⟩
theorem t8291 (C : VCode V) : VA V a8291 := VA_of (envOk C) C.c_sync_Hb.1 C.c_sync_Hb.2 (O := [a7554, a1095, a1097, a8279, a2025, a2033, a2071, a2101]) (.cons (t7554 C) (.cons (t1095 C) (.cons (t1097 C) (.cons (t8279 C) (.cons (t2025 C) (.cons (t2033 C) (.cons (t2071 C) (.cons (t2101 C) .nil)))))))) (by kernel_rfl)
def a8293 : Ans := ⟨n_cohe_Is, [v161, v50], .b true⟩
theorem t8293 (C : VCode V) : VA V a8293 := VA_of (envOk C) C.c_cohe_Is.1 C.c_cohe_Is.2 (O := [a8291, a2106]) (.cons (t8291 C) (.cons (t2106 C) .nil)) (by kernel_rfl)
def v165 : VV := .ag [.i .i64 4, .ls [[.s ⟨⟨[120]⟩⟩]], .ls [[.ls [[.s ⟨⟨[97]⟩⟩]]], [.ls [[.s ⟨⟨[97]⟩⟩]]]], v160, v40, v49, .ls [[.ls [[.i .i64 0], [.i .i64 3], [.i .i64 12]]]], v46]
def a8297 : Ans := ⟨n_exec_run_atomic, [v165], .b false⟩
theorem t8297 (C : VCode V) : VA V a8297 := VA_of (envOk C) C.c_exec_run_atomic.1 C.c_exec_run_atomic.2 (O := [a2114]) (.cons (t2114 C) .nil) (by kernel_rfl)
def a8298 : Ans := ⟨n_exec_Atomic, [v161, v50], .b false⟩
theorem t8298 (C : VCode V) : VA V a8298 := VA_of (envOk C) C.c_exec_Atomic.1 C.c_exec_Atomic.2 (O := [a8293, a8291, a8297]) (.cons (t8293 C) (.cons (t8291 C) (.cons (t8297 C) .nil))) (by kernel_rfl)
def a8300 : Ans := ⟨n_cohe_Is, [v161, v52], .b true⟩
theorem t8300 (C : VCode V) : VA V a8300 := VA_of (envOk C) C.c_cohe_Is.1 C.c_cohe_Is.2 (O := [a8291, a2119]) (.cons (t8291 C) (.cons (t2119 C) .nil)) (by kernel_rfl)
def v166 : VV := .ag [.i .i64 4, .ls [[.s ⟨⟨[120]⟩⟩]], .ls [[.ls [[.s ⟨⟨[97]⟩⟩]]], [.ls [[.s ⟨⟨[97]⟩⟩]]]], v160, v40, v49, .ls [[.ls [[.i .i64 0], [.i .i64 12], [.i .i64 3]]]], v46]
def a8303 : Ans := ⟨n_exec_run_atomic, [v166], .b false⟩
theorem t8303 (C : VCode V) : VA V a8303 := VA_of (envOk C) C.c_exec_run_atomic.1 C.c_exec_run_atomic.2 (O := []) .nil (by kernel_rfl)
def a8304 : Ans := ⟨n_exec_Atomic, [v161, v52], .b false⟩
theorem t8304 (C : VCode V) : VA V a8304 := VA_of (envOk C) C.c_exec_Atomic.1 C.c_exec_Atomic.2 (O := [a8300, a8291, a8303]) (.cons (t8300 C) (.cons (t8291 C) (.cons (t8303 C) .nil))) (by kernel_rfl)
def v167 : VV := .fp [.i .i64 4, .ls [[.s ⟨⟨[120]⟩⟩]], .ls [[.ls [[.s ⟨⟨[97]⟩⟩]]], [.ls [[.s ⟨⟨[97]⟩⟩]]]], v160] 0
def v168 : VV := .fp [.i .i64 4, .ls [[.s ⟨⟨[120]⟩⟩]], .ls [[.ls [[.s ⟨⟨[97]⟩⟩]]], [.ls [[.s ⟨⟨[97]⟩⟩]]]], v160, v40, v49, .ls [[.ls [[.i .i64 0], [.i .i64 3], [.i .i64 12]]]]] 0
def a8309 : Ans := ⟨n_cohe_Exec_1, [.i .i64 2, v167, v168], .i .i64 0⟩
theorem t8309 (C : VCode V) : VA V a8309 := VA_of (envOk C) C.c_cohe_Exec_1.1 C.c_cohe_Exec_1.2 (O := []) .nil (by kernel_rfl)
def a8311 : Ans := ⟨n_cohe_Exec_1, [.i .i64 3, v167, v168], .i .i64 1⟩
theorem t8311 (C : VCode V) : VA V a8311 := VA_of (envOk C) C.c_cohe_Exec_1.1 C.c_cohe_Exec_1.2 (O := []) .nil (by kernel_rfl)
def a8314 : Ans := ⟨n_cohe_Exec_1, [.i .i64 11, v167, v168], .i .i64 0⟩
theorem t8314 (C : VCode V) : VA V a8314 := VA_of (envOk C) C.c_cohe_Exec_1.1 C.c_cohe_Exec_1.2 (O := [a2114]) (.cons (t2114 C) .nil) (by kernel_rfl)
def a8316 : Ans := ⟨n_cohe_Exec_1, [.i .i64 12, v167, v168], .i .i64 2⟩
theorem t8316 (C : VCode V) : VA V a8316 := VA_of (envOk C) C.c_cohe_Exec_1.1 C.c_cohe_Exec_1.2 (O := []) .nil (by kernel_rfl)
def a8319 : Ans := ⟨n_exec_Good, [v161, v50], .b false⟩
theorem t8319 (C : VCode V) : VA V a8319 := VA_of (envOk C) C.c_exec_Good.1 C.c_exec_Good.2 (O := [a8293, a8291, a8293, a8291, a2140, a8309, a2148, a8311, a6169, a8314, a2159, a8316, a4229, a8309, a8311, a8309, a8311, a6177, a8314, a8316, a8314, a8316, a4232, a8297]) (.cons (t8293 C) (.cons (t8291 C) (.cons (t8293 C) (.cons (t8291 C) (.cons (t2140 C) (.cons (t8309 C) (.cons (t2148 C) (.cons (t8311 C) (.cons (t6169 C) (.cons (t8314 C) (.cons (t2159 C) (.cons (t8316 C) (.cons (t4229 C) (.cons (t8309 C) (.cons (t8311 C) (.cons (t8309 C) (.cons (t8311 C) (.cons (t6177 C) (.cons (t8314 C) (.cons (t8316 C) (.cons (t8314 C) (.cons (t8316 C) (.cons (t4232 C) (.cons (t8297 C) .nil)))))))))))))))))))))))) (by kernel_rfl)
def v169 : VV := .fp [.i .i64 4, .ls [[.s ⟨⟨[120]⟩⟩]], .ls [[.ls [[.s ⟨⟨[97]⟩⟩]]], [.ls [[.s ⟨⟨[97]⟩⟩]]]], v160, v40, v49, .ls [[.ls [[.i .i64 0], [.i .i64 12], [.i .i64 3]]]]] 0
def a8324 : Ans := ⟨n_cohe_Exec_1, [.i .i64 2, v167, v169], .i .i64 0⟩
theorem t8324 (C : VCode V) : VA V a8324 := VA_of (envOk C) C.c_cohe_Exec_1.1 C.c_cohe_Exec_1.2 (O := []) .nil (by kernel_rfl)
def a8326 : Ans := ⟨n_cohe_Exec_1, [.i .i64 3, v167, v169], .i .i64 2⟩
theorem t8326 (C : VCode V) : VA V a8326 := VA_of (envOk C) C.c_cohe_Exec_1.1 C.c_cohe_Exec_1.2 (O := []) .nil (by kernel_rfl)
def a8329 : Ans := ⟨n_cohe_Exec_1, [.i .i64 11, v167, v169], .i .i64 0⟩
theorem t8329 (C : VCode V) : VA V a8329 := VA_of (envOk C) C.c_cohe_Exec_1.1 C.c_cohe_Exec_1.2 (O := [a2114]) (.cons (t2114 C) .nil) (by kernel_rfl)
def a8331 : Ans := ⟨n_cohe_Exec_1, [.i .i64 12, v167, v169], .i .i64 1⟩
theorem t8331 (C : VCode V) : VA V a8331 := VA_of (envOk C) C.c_cohe_Exec_1.1 C.c_cohe_Exec_1.2 (O := []) .nil (by kernel_rfl)
def a8334 : Ans := ⟨n_exec_Good, [v161, v52], .b false⟩
theorem t8334 (C : VCode V) : VA V a8334 := VA_of (envOk C) C.c_exec_Good.1 C.c_exec_Good.2 (O := [a8300, a8291, a8300, a8291, a2140, a8324, a2148, a8326, a6190, a8329, a2159, a8331, a4250, a8324, a8326, a8324, a8326, a6198, a8329, a8331, a8329, a8331, a4253, a8303]) (.cons (t8300 C) (.cons (t8291 C) (.cons (t8300 C) (.cons (t8291 C) (.cons (t2140 C) (.cons (t8324 C) (.cons (t2148 C) (.cons (t8326 C) (.cons (t6190 C) (.cons (t8329 C) (.cons (t2159 C) (.cons (t8331 C) (.cons (t4250 C) (.cons (t8324 C) (.cons (t8326 C) (.cons (t8324 C) (.cons (t8326 C) (.cons (t6198 C) (.cons (t8329 C) (.cons (t8331 C) (.cons (t8329 C) (.cons (t8331 C) (.cons (t4253 C) (.cons (t8303 C) .nil)))))))))))))))))))))))) (by kernel_rfl)
def a8357 : Ans := ⟨n_sync_Hb, [v161, v132, v63], v133⟩
theorem t8357 (C : VCode V) : VA V a8357 := VA_of (envOk C) C.c_sync_Hb.1 C.c_sync_Hb.2 (O := [a7554, a6202, a1097, a8279, a6250, a6258, a6258, a6303, a6331]) (.cons (t7554 C) (.cons (t6202 C) (.cons (t1097 C) (.cons (t8279 C) (.cons (t6250 C) (.cons (t6258 C) (.cons (t6258 C) (.cons (t6303 C) (.cons (t6331 C) .nil))))))))) (by kernel_rfl)
def a8359 : Ans := ⟨n_cohe_Is, [v161, v135], .b true⟩
theorem t8359 (C : VCode V) : VA V a8359 := VA_of (envOk C) C.c_cohe_Is.1 C.c_cohe_Is.2 (O := [a8357, a6336]) (.cons (t8357 C) (.cons (t6336 C) .nil)) (by kernel_rfl)
def v170 : VV := .ag [.i .i64 4, .ls [[.s ⟨⟨[120]⟩⟩]], .ls [[.ls [[.s ⟨⟨[97]⟩⟩]]], [.ls [[.s ⟨⟨[97]⟩⟩]]]], v160, v132, v63, .ls [[.ls [[.i .i64 0], [.i .i64 3], [.i .i64 14]]]], v133]
def a8363 : Ans := ⟨n_exec_run_atomic, [v170], .b true⟩
theorem t8363 (C : VCode V) : VA V a8363 := VA_of (envOk C) C.c_exec_run_atomic.1 C.c_exec_run_atomic.2 (O := [a6344]) (.cons (t6344 C) .nil) (by kernel_rfl)
def a8364 : Ans := ⟨n_exec_Atomic, [v161, v135], .b true⟩
theorem t8364 (C : VCode V) : VA V a8364 := VA_of (envOk C) C.c_exec_Atomic.1 C.c_exec_Atomic.2 (O := [a8359, a8357, a8363]) (.cons (t8359 C) (.cons (t8357 C) (.cons (t8363 C) .nil))) (by kernel_rfl)
def v171 : VV := .fp [.i .i64 4, .ls [[.s ⟨⟨[120]⟩⟩]], .ls [[.ls [[.s ⟨⟨[97]⟩⟩]]], [.ls [[.s ⟨⟨[97]⟩⟩]]]], v160, v132, v63, .ls [[.ls [[.i .i64 0], [.i .i64 3], [.i .i64 14]]]]] 0
def a8369 : Ans := ⟨n_cohe_Exec_1, [.i .i64 2, v167, v171], .i .i64 0⟩
theorem t8369 (C : VCode V) : VA V a8369 := VA_of (envOk C) C.c_cohe_Exec_1.1 C.c_cohe_Exec_1.2 (O := []) .nil (by kernel_rfl)
def a8371 : Ans := ⟨n_cohe_Exec_1, [.i .i64 3, v167, v171], .i .i64 1⟩
theorem t8371 (C : VCode V) : VA V a8371 := VA_of (envOk C) C.c_cohe_Exec_1.1 C.c_cohe_Exec_1.2 (O := []) .nil (by kernel_rfl)
def a8374 : Ans := ⟨n_cohe_Exec_1, [.i .i64 13, v167, v171], .i .i64 1⟩
theorem t8374 (C : VCode V) : VA V a8374 := VA_of (envOk C) C.c_cohe_Exec_1.1 C.c_cohe_Exec_1.2 (O := [a6344]) (.cons (t6344 C) .nil) (by kernel_rfl)
def a8376 : Ans := ⟨n_cohe_Exec_1, [.i .i64 14, v167, v171], .i .i64 2⟩
theorem t8376 (C : VCode V) : VA V a8376 := VA_of (envOk C) C.c_cohe_Exec_1.1 C.c_cohe_Exec_1.2 (O := []) .nil (by kernel_rfl)
def a8386 : Ans := ⟨n_exec_run_behind, [v170, .i .i64 0], .i .u64 16392⟩
theorem t8386 (C : VCode V) : VA V a8386 := VA_of (envOk C) C.c_exec_run_behind.1 C.c_exec_run_behind.2 (O := []) .nil (by kernel_rfl)
def a8398 : Ans := ⟨n_exec_run_behind, [v170, .i .i64 3], .i .u64 16384⟩
theorem t8398 (C : VCode V) : VA V a8398 := VA_of (envOk C) C.c_exec_run_behind.1 C.c_exec_run_behind.2 (O := []) .nil (by kernel_rfl)
def a8424 : Ans := ⟨n_exec_Good, [v161, v135], .b true⟩
theorem t8424 (C : VCode V) : VA V a8424 := VA_of (envOk C) C.c_exec_Good.1 C.c_exec_Good.2 (O := [a8359, a8357, a8359, a8357, a6352, a8369, a2148, a8371, a6169, a8374, a6365, a8376, a8369, a8371, a8369, a8371, a6177, a8374, a8376, a8374, a8376, a8363, a8386, a8386, a8398, a6344, a8398, a6411, a6456, a6487, a6489, a2383]) (.cons (t8359 C) (.cons (t8357 C) (.cons (t8359 C) (.cons (t8357 C) (.cons (t6352 C) (.cons (t8369 C) (.cons (t2148 C) (.cons (t8371 C) (.cons (t6169 C) (.cons (t8374 C) (.cons (t6365 C) (.cons (t8376 C) (.cons (t8369 C) (.cons (t8371 C) (.cons (t8369 C) (.cons (t8371 C) (.cons (t6177 C) (.cons (t8374 C) (.cons (t8376 C) (.cons (t8374 C) (.cons (t8376 C) (.cons (t8363 C) (.cons (t8386 C) (.cons (t8386 C) (.cons (t8398 C) (.cons (t6344 C) (.cons (t8398 C) (.cons (t6411 C) (.cons (t6456 C) (.cons (t6487 C) (.cons (t6489 C) (.cons (t2383 C) .nil)))))))))))))))))))))))))))))))) (by kernel_rfl)
def a8433 : Ans := ⟨n_witheref17_ExecForm, [v161, v135], .b true⟩
theorem t8433 (C : VCode V) : VA V a8433 := VA_of (envOk C) C.c_witheref17_ExecForm.1 C.c_witheref17_ExecForm.2 (O := [a6511]) (.cons (t6511 C) .nil) (by kernel_rfl)
end
end Go.AM
