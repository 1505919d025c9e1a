/-
  Certificates: what calls answer, each carried out by the kernel.
-/
import Derived.Test.YtgenbmicpdkhlaaGreatDoorCeE
import Derived.KernelRfl
import Derived.Test.YtgenbmicpdkhlaaGreatDoorCe0
import Derived.Test.YtgenbmicpdkhlaaGreatDoorCe1
import Derived.Test.YtgenbmicpdkhlaaGreatDoorCe2
import Derived.Test.YtgenbmicpdkhlaaGreatDoorCe4
import Derived.Test.YtgenbmicpdkhlaaGreatDoorCe5
set_option linter.unusedVariables false
set_option linter.unusedSimpArgs false
set_option linter.unusedSectionVars false
set_option linter.unnecessarySimpa false
set_option maxRecDepth 1000000
set_option maxHeartbeats 4000000
namespace Go.AM
section
variable {V : VProg}
def v172 : VV := .ls [[v71], [v103]]
def v173 : VV := .ag [.s ⟨⟨[97]⟩⟩, .i .i64 4, .ls [[.s ⟨⟨[120]⟩⟩, .i .i64 0]], v172, .i .i64 1, .i .i64 1, .i .i64 0, .s ⟨⟨[120]⟩⟩, .i .i64 0, .ls []]
def v174 : VV := .ls [[.i .i64 (-1), .i .i64 (-1), .i .i64 3, .i .i64 0, .i .i64 0, .i .i64 0, .b false, .b false, .ls []], [.i .i64 0, .i .i64 (-1), .i .i64 1, .i .i64 0, .i .i64 0, .i .i64 0, .b false, .b false, .ls []], [.i .i64 0, .i .i64 1, .i .i64 2, .i .i64 0, .i .i64 0, .i .i64 0, .b false, .b false, .ls []], [.i .i64 0, .i .i64 2, .i .i64 3, .i .i64 0, .i .i64 0, .i .i64 1, .b true, .b true, .ls [[.i .i64 0]]], [.i .i64 0, .i .i64 1, .i .i64 2, .i .i64 0, .i .i64 0, .i .i64 1, .b false, .b false, .ls []], [.i .i64 0, .i .i64 4, .i .i64 3, .i .i64 0, .i .i64 0, .i .i64 2, .b true, .b true, .ls [[.i .i64 1]]], [.i .i64 0, .i .i64 1, .i .i64 2, .i .i64 0, .i .i64 0, .i .i64 2, .b false, .b false, .ls []], [.i .i64 0, .i .i64 6, .i .i64 3, .i .i64 0, .i .i64 0, .i .i64 3, .b true, .b true, .ls [[.i .i64 2]]], [.i .i64 0, .i .i64 1, .i .i64 2, .i .i64 0, .i .i64 0, .i .i64 3, .b false, .b false, .ls []], [.i .i64 0, .i .i64 8, .i .i64 3, .i .i64 0, .i .i64 0, .i .i64 0, .b true, .b true, .ls [[.i .i64 3]]], [.i .i64 1, .i .i64 (-1), .i .i64 1, .i .i64 0, .i .i64 0, .i .i64 0, .b false, .b false, .ls []], [.i .i64 1, .i .i64 10, .i .i64 2, .i .i64 0, .i .i64 0, .i .i64 0, .b false, .b false, .ls []], [.i .i64 1, .i .i64 11, .i .i64 3, .i .i64 0, .i .i64 0, .i .i64 3, .b true, .b true, .ls [[.i .i64 0]]], [.i .i64 1, .i .i64 10, .i .i64 2, .i .i64 0, .i .i64 0, .i .i64 1, .b false, .b false, .ls []], [.i .i64 1, .i .i64 13, .i .i64 3, .i .i64 0, .i .i64 0, .i .i64 0, .b true, .b true, .ls [[.i .i64 1]]], [.i .i64 1, .i .i64 10, .i .i64 2, .i .i64 0, .i .i64 0, .i .i64 2, .b false, .b false, .ls []], [.i .i64 1, .i .i64 15, .i .i64 3, .i .i64 0, .i .i64 0, .i .i64 1, .b true, .b true, .ls [[.i .i64 2]]], [.i .i64 1, .i .i64 10, .i .i64 2, .i .i64 0, .i .i64 0, .i .i64 3, .b false, .b false, .ls []], [.i .i64 1, .i .i64 17, .i .i64 3, .i .i64 0, .i .i64 0, .i .i64 2, .b true, .b true, .ls [[.i .i64 3]]]]
def v175 : VV := .ag [.i .i64 4, .ls [[.s ⟨⟨[120]⟩⟩]], .ls [[.ls [[.s ⟨⟨[97]⟩⟩]]], [.ls [[.s ⟨⟨[97]⟩⟩]]]], v174]
def v176 : VV := .tu [v175, .b true]
def a8438 : Ans := ⟨n_withemade_Tree, [v173], v176⟩
theorem t8438 (C : VCode V) : VA V a8438 := VA_of (envOk C) C.c_withemade_Tree.1 C.c_withemade_Tree.2 (O := [a27, a9, a27, a2403, a27, a4356, a1002, a2406, a4359, a2408, a2408, a2408, a2408, a4362, a4362, a4362, a4362]) (.cons (t27 C) (.cons (t9 C) (.cons (t27 C) (.cons (t2403 C) (.cons (t27 C) (.cons (t4356 C) (.cons (t1002 C) (.cons (t2406 C) (.cons (t4359 C) (.cons (t2408 C) (.cons (t2408 C) (.cons (t2408 C) (.cons (t2408 C) (.cons (t4362 C) (.cons (t4362 C) (.cons (t4362 C) (.cons (t4362 C) .nil))))))))))))))))) (by kernel_rfl)
def a8514 : Ans := ⟨n_lts_May, [v175], .b true⟩
theorem t8514 (C : VCode V) : VA V a8514 := VA_of (envOk C) C.c_lts_May.1 C.c_lts_May.2 (O := []) .nil (by kernel_rfl)
def v177 : VV := .ag [.i .i64 4, .ls [[.s ⟨⟨[120]⟩⟩]], .ls [[.ls [[.s ⟨⟨[97]⟩⟩]]], [.ls [[.s ⟨⟨[97]⟩⟩]]]], v174, v41, v42]
def v178 : VV := .f n_tree_deep_before [v177] []
def a9238 : Ans := ⟨n_tree_deep_rows, [v177, v178], v45⟩
theorem t9238 (C : VCode V) : VA V a9238 := VA_of (envOk C) C.c_tree_deep_rows.1 C.c_tree_deep_rows.2 (O := []) .nil (by kernel_rfl)
def a9239 : Ans := ⟨n_tree_Po, [v175], v45⟩
theorem t9239 (C : VCode V) : VA V a9239 := VA_of (envOk C) C.c_tree_Po.1 C.c_tree_Po.2 (O := [a8514, a9238]) (.cons (t8514 C) (.cons (t9238 C) .nil)) (by kernel_rfl)
def a9251 : Ans := ⟨n_sync_Hb, [v175, v40, v49], v46⟩
theorem t9251 (C : VCode V) : VA V a9251 := VA_of (envOk C) C.c_sync_Hb.1 C.c_sync_Hb.2 (O := [a8514, a1095, a1097, a9239, a2025, a2033, a2071, a2101]) (.cons (t8514 C) (.cons (t1095 C) (.cons (t1097 C) (.cons (t9239 C) (.cons (t2025 C) (.cons (t2033 C) (.cons (t2071 C) (.cons (t2101 C) .nil)))))))) (by kernel_rfl)
def a9253 : Ans := ⟨n_cohe_Is, [v175, v50], .b true⟩
theorem t9253 (C : VCode V) : VA V a9253 := VA_of (envOk C) C.c_cohe_Is.1 C.c_cohe_Is.2 (O := [a9251, a2106]) (.cons (t9251 C) (.cons (t2106 C) .nil)) (by kernel_rfl)
def v179 : VV := .ag [.i .i64 4, .ls [[.s ⟨⟨[120]⟩⟩]], .ls [[.ls [[.s ⟨⟨[97]⟩⟩]]], [.ls [[.s ⟨⟨[97]⟩⟩]]]], v174, v40, v49, .ls [[.ls [[.i .i64 0], [.i .i64 3], [.i .i64 12]]]], v46]
def a9257 : Ans := ⟨n_exec_run_atomic, [v179], .b false⟩
theorem t9257 (C : VCode V) : VA V a9257 := VA_of (envOk C) C.c_exec_run_atomic.1 C.c_exec_run_atomic.2 (O := [a2114]) (.cons (t2114 C) .nil) (by kernel_rfl)
def a9258 : Ans := ⟨n_exec_Atomic, [v175, v50], .b false⟩
theorem t9258 (C : VCode V) : VA V a9258 := VA_of (envOk C) C.c_exec_Atomic.1 C.c_exec_Atomic.2 (O := [a9253, a9251, a9257]) (.cons (t9253 C) (.cons (t9251 C) (.cons (t9257 C) .nil))) (by kernel_rfl)
def a9260 : Ans := ⟨n_cohe_Is, [v175, v52], .b true⟩
theorem t9260 (C : VCode V) : VA V a9260 := VA_of (envOk C) C.c_cohe_Is.1 C.c_cohe_Is.2 (O := [a9251, a2119]) (.cons (t9251 C) (.cons (t2119 C) .nil)) (by kernel_rfl)
def v180 : VV := .ag [.i .i64 4, .ls [[.s ⟨⟨[120]⟩⟩]], .ls [[.ls [[.s ⟨⟨[97]⟩⟩]]], [.ls [[.s ⟨⟨[97]⟩⟩]]]], v174, v40, v49, .ls [[.ls [[.i .i64 0], [.i .i64 12], [.i .i64 3]]]], v46]
def a9263 : Ans := ⟨n_exec_run_atomic, [v180], .b false⟩
theorem t9263 (C : VCode V) : VA V a9263 := VA_of (envOk C) C.c_exec_run_atomic.1 C.c_exec_run_atomic.2 (O := []) .nil (by kernel_rfl)
def a9264 : Ans := ⟨n_exec_Atomic, [v175, v52], .b false⟩
theorem t9264 (C : VCode V) : VA V a9264 := VA_of (envOk C) C.c_exec_Atomic.1 C.c_exec_Atomic.2 (O := [a9260, a9251, a9263]) (.cons (t9260 C) (.cons (t9251 C) (.cons (t9263 C) .nil))) (by kernel_rfl)
def v181 : VV := .fp [.i .i64 4, .ls [[.s ⟨⟨[120]⟩⟩]], .ls [[.ls [[.s ⟨⟨[97]⟩⟩]]], [.ls [[.s ⟨⟨[97]⟩⟩]]]], v174] 0
def v182 : VV := .fp [.i .i64 4, .ls [[.s ⟨⟨[120]⟩⟩]], .ls [[.ls [[.s ⟨⟨[97]⟩⟩]]], [.ls [[.s ⟨⟨[97]⟩⟩]]]], v174, v40, v49, .ls [[.ls [[.i .i64 0], [.i .i64 3], [.i .i64 12]]]]] 0
def a9269 : Ans := ⟨n_cohe_Exec_1, [.i .i64 2, v181, v182], .i .i64 0⟩
theorem t9269 (C : VCode V) : VA V a9269 := VA_of (envOk C) C.c_cohe_Exec_1.1 C.c_cohe_Exec_1.2 (O := []) .nil (by kernel_rfl)
def a9271 : Ans := ⟨n_cohe_Exec_1, [.i .i64 3, v181, v182], .i .i64 1⟩
theorem t9271 (C : VCode V) : VA V a9271 := VA_of (envOk C) C.c_cohe_Exec_1.1 C.c_cohe_Exec_1.2 (O := []) .nil (by kernel_rfl)
def a9274 : Ans := ⟨n_cohe_Exec_1, [.i .i64 11, v181, v182], .i .i64 0⟩
theorem t9274 (C : VCode V) : VA V a9274 := VA_of (envOk C) C.c_cohe_Exec_1.1 C.c_cohe_Exec_1.2 (O := [a2114]) (.cons (t2114 C) .nil) (by kernel_rfl)
def a9276 : Ans := ⟨n_cohe_Exec_1, [.i .i64 12, v181, v182], .i .i64 2⟩
theorem t9276 (C : VCode V) : VA V a9276 := VA_of (envOk C) C.c_cohe_Exec_1.1 C.c_cohe_Exec_1.2 (O := []) .nil (by kernel_rfl)
def a9279 : Ans := ⟨n_exec_Good, [v175, v50], .b false⟩
theorem t9279 (C : VCode V) : VA V a9279 := VA_of (envOk C) C.c_exec_Good.1 C.c_exec_Good.2 (O := [a9253, a9251, a9253, a9251, a2140, a9269, a2148, a9271, a6169, a9274, a2159, a9276, a5206, a9269, a9271, a9269, a9271, a6177, a9274, a9276, a9274, a9276, a5209, a9257]) (.cons (t9253 C) (.cons (t9251 C) (.cons (t9253 C) (.cons (t9251 C) (.cons (t2140 C) (.cons (t9269 C) (.cons (t2148 C) (.cons (t9271 C) (.cons (t6169 C) (.cons (t9274 C) (.cons (t2159 C) (.cons (t9276 C) (.cons (t5206 C) (.cons (t9269 C) (.cons (t9271 C) (.cons (t9269 C) (.cons (t9271 C) (.cons (t6177 C) (.cons (t9274 C) (.cons (t9276 C) (.cons (t9274 C) (.cons (t9276 C) (.cons (t5209 C) (.cons (t9257 C) .nil)))))))))))))))))))))))) (by kernel_rfl)
def v183 : VV := .fp [.i .i64 4, .ls [[.s ⟨⟨[120]⟩⟩]], .ls [[.ls [[.s ⟨⟨[97]⟩⟩]]], [.ls [[.s ⟨⟨[97]⟩⟩]]]], v174, v40, v49, .ls [[.ls [[.i .i64 0], [.i .i64 12], [.i .i64 3]]]]] 0
def a9284 : Ans := ⟨n_cohe_Exec_1, [.i .i64 2, v181, v183], .i .i64 0⟩
theorem t9284 (C : VCode V) : VA V a9284 := VA_of (envOk C) C.c_cohe_Exec_1.1 C.c_cohe_Exec_1.2 (O := []) .nil (by kernel_rfl)
def a9286 : Ans := ⟨n_cohe_Exec_1, [.i .i64 3, v181, v183], .i .i64 2⟩
theorem t9286 (C : VCode V) : VA V a9286 := VA_of (envOk C) C.c_cohe_Exec_1.1 C.c_cohe_Exec_1.2 (O := []) .nil (by kernel_rfl)
def a9289 : Ans := ⟨n_cohe_Exec_1, [.i .i64 11, v181, v183], .i .i64 0⟩
theorem t9289 (C : VCode V) : VA V a9289 := VA_of (envOk C) C.c_cohe_Exec_1.1 C.c_cohe_Exec_1.2 (O := [a2114]) (.cons (t2114 C) .nil) (by kernel_rfl)
def a9291 : Ans := ⟨n_cohe_Exec_1, [.i .i64 12, v181, v183], .i .i64 1⟩
theorem t9291 (C : VCode V) : VA V a9291 := VA_of (envOk C) C.c_cohe_Exec_1.1 C.c_cohe_Exec_1.2 (O := []) .nil (by kernel_rfl)
def a9294 : Ans := ⟨n_exec_Good, [v175, v52], .b false⟩
theorem t9294 (C : VCode V) : VA V a9294 := VA_of (envOk C) C.c_exec_Good.1 C.c_exec_Good.2 (O := [a9260, a9251, a9260, a9251, a2140, a9284, a2148, a9286, a6190, a9289, a2159, a9291, a5227, a9284, a9286, a9284, a9286, a6198, a9289, a9291, a9289, a9291, a5230, a9263]) (.cons (t9260 C) (.cons (t9251 C) (.cons (t9260 C) (.cons (t9251 C) (.cons (t2140 C) (.cons (t9284 C) (.cons (t2148 C) (.cons (t9286 C) (.cons (t6190 C) (.cons (t9289 C) (.cons (t2159 C) (.cons (t9291 C) (.cons (t5227 C) (.cons (t9284 C) (.cons (t9286 C) (.cons (t9284 C) (.cons (t9286 C) (.cons (t6198 C) (.cons (t9289 C) (.cons (t9291 C) (.cons (t9289 C) (.cons (t9291 C) (.cons (t5230 C) (.cons (t9263 C) .nil)))))))))))))))))))))))) (by kernel_rfl)
def a9317 : Ans := ⟨n_sync_Hb, [v175, v132, v63], v133⟩
theorem t9317 (C : VCode V) : VA V a9317 := VA_of (envOk C) C.c_sync_Hb.1 C.c_sync_Hb.2 (O := [a8514, a6202, a1097, a9239, a6250, a6258, a6258, a6303, a6331]) (.cons (t8514 C) (.cons (t6202 C) (.cons (t1097 C) (.cons (t9239 C) (.cons (t6250 C) (.cons (t6258 C) (.cons (t6258 C) (.cons (t6303 C) (.cons (t6331 C) .nil))))))))) (by kernel_rfl)
def a9319 : Ans := ⟨n_cohe_Is, [v175, v135], .b true⟩
theorem t9319 (C : VCode V) : VA V a9319 := VA_of (envOk C) C.c_cohe_Is.1 C.c_cohe_Is.2 (O := [a9317, a6336]) (.cons (t9317 C) (.cons (t6336 C) .nil)) (by kernel_rfl)
def v184 : VV := .ag [.i .i64 4, .ls [[.s ⟨⟨[120]⟩⟩]], .ls [[.ls [[.s ⟨⟨[97]⟩⟩]]], [.ls [[.s ⟨⟨[97]⟩⟩]]]], v174, v132, v63, .ls [[.ls [[.i .i64 0], [.i .i64 3], [.i .i64 14]]]], v133]
def a9323 : Ans := ⟨n_exec_run_atomic, [v184], .b true⟩
theorem t9323 (C : VCode V) : VA V a9323 := VA_of (envOk C) C.c_exec_run_atomic.1 C.c_exec_run_atomic.2 (O := [a6344]) (.cons (t6344 C) .nil) (by kernel_rfl)
def a9324 : Ans := ⟨n_exec_Atomic, [v175, v135], .b true⟩
theorem t9324 (C : VCode V) : VA V a9324 := VA_of (envOk C) C.c_exec_Atomic.1 C.c_exec_Atomic.2 (O := [a9319, a9317, a9323]) (.cons (t9319 C) (.cons (t9317 C) (.cons (t9323 C) .nil))) (by kernel_rfl)
def v185 : VV := .fp [.i .i64 4, .ls [[.s ⟨⟨[120]⟩⟩]], .ls [[.ls [[.s ⟨⟨[97]⟩⟩]]], [.ls [[.s ⟨⟨[97]⟩⟩]]]], v174, v132, v63, .ls [[.ls [[.i .i64 0], [.i .i64 3], [.i .i64 14]]]]] 0
def a9329 : Ans := ⟨n_cohe_Exec_1, [.i .i64 2, v181, v185], .i .i64 0⟩
theorem t9329 (C : VCode V) : VA V a9329 := VA_of (envOk C) C.c_cohe_Exec_1.1 C.c_cohe_Exec_1.2 (O := []) .nil (by kernel_rfl)
def a9331 : Ans := ⟨n_cohe_Exec_1, [.i .i64 3, v181, v185], .i .i64 1⟩
theorem t9331 (C : VCode V) : VA V a9331 := VA_of (envOk C) C.c_cohe_Exec_1.1 C.c_cohe_Exec_1.2 (O := []) .nil (by kernel_rfl)
def a9334 : Ans := ⟨n_cohe_Exec_1, [.i .i64 13, v181, v185], .i .i64 1⟩
theorem t9334 (C : VCode V) : VA V a9334 := VA_of (envOk C) C.c_cohe_Exec_1.1 C.c_cohe_Exec_1.2 (O := [a6344]) (.cons (t6344 C) .nil) (by kernel_rfl)
def a9336 : Ans := ⟨n_cohe_Exec_1, [.i .i64 14, v181, v185], .i .i64 2⟩
theorem t9336 (C : VCode V) : VA V a9336 := VA_of (envOk C) C.c_cohe_Exec_1.1 C.c_cohe_Exec_1.2 (O := []) .nil (by kernel_rfl)
def a9346 : Ans := ⟨n_exec_run_behind, [v184, .i .i64 0], .i .u64 16392⟩
theorem t9346 (C : VCode V) : VA V a9346 := VA_of (envOk C) C.c_exec_run_behind.1 C.c_exec_run_behind.2 (O := []) .nil (by kernel_rfl)
def a9358 : Ans := ⟨n_exec_run_behind, [v184, .i .i64 3], .i .u64 16384⟩
theorem t9358 (C : VCode V) : VA V a9358 := VA_of (envOk C) C.c_exec_run_behind.1 C.c_exec_run_behind.2 (O := []) .nil (by kernel_rfl)
def a9384 : Ans := ⟨n_exec_Good, [v175, v135], .b true⟩
theorem t9384 (C : VCode V) : VA V a9384 := VA_of (envOk C) C.c_exec_Good.1 C.c_exec_Good.2 (O := [a9319, a9317, a9319, a9317, a6352, a9329, a2148, a9331, a6169, a9334, a6365, a9336, a9329, a9331, a9329, a9331, a6177, a9334, a9336, a9334, a9336, a9323, a9346, a9346, a9358, a6344, a9358, a6411, a6456, a6487, a6489, a2383]) (.cons (t9319 C) (.cons (t9317 C) (.cons (t9319 C) (.cons (t9317 C) (.cons (t6352 C) (.cons (t9329 C) (.cons (t2148 C) (.cons (t9331 C) (.cons (t6169 C) (.cons (t9334 C) (.cons (t6365 C) (.cons (t9336 C) (.cons (t9329 C) (.cons (t9331 C) (.cons (t9329 C) (.cons (t9331 C) (.cons (t6177 C) (.cons (t9334 C) (.cons (t9336 C) (.cons (t9334 C) (.cons (t9336 C) (.cons (t9323 C) (.cons (t9346 C) (.cons (t9346 C) (.cons (t9358 C) (.cons (t6344 C) (.cons (t9358 C) (.cons (t6411 C) (.cons (t6456 C) (.cons (t6487 C) (.cons (t6489 C) (.cons (t2383 C) .nil)))))))))))))))))))))))))))))))) (by kernel_rfl)
def a9393 : Ans := ⟨n_witheref17_ExecForm, [v175, v135], .b true⟩
theorem t9393 (C : VCode V) : VA V a9393 := VA_of (envOk C) C.c_witheref17_ExecForm.1 C.c_witheref17_ExecForm.2 (O := [a6511]) (.cons (t6511 C) .nil) (by kernel_rfl)
end
end Go.AM
