/-
  Certificates: what calls answer, each carried out by the kernel.
-/
import Derived.Test.YtgenbmicpdkhlaaGreatDoorCeE
import Derived.KernelRfl
import Derived.Test.YtgenbmicpdkhlaaGreatDoorCe0
import Derived.Test.YtgenbmicpdkhlaaGreatDoorCe1
import Derived.Test.YtgenbmicpdkhlaaGreatDoorCe3
import Derived.Test.YtgenbmicpdkhlaaGreatDoorCe4
import Derived.Test.YtgenbmicpdkhlaaGreatDoorCe9
set_option linter.unusedVariables false
set_option linter.unusedSimpArgs false
set_option linter.unusedSectionVars false
set_option linter.unnecessarySimpa false
set_option maxRecDepth 1000000
set_option maxHeartbeats 4000000
namespace Go.AM
section
variable {V : VProg}
def v239 : VV := .ls [[v87], [v103]]
def v240 : VV := .ag [.s ⟨⟨[97]⟩⟩, .i .i64 4, .ls [[.s ⟨⟨[120]⟩⟩, .i .i64 0]], v239, .i .i64 1, .i .i64 1, .i .i64 0, .s ⟨⟨[120]⟩⟩, .i .i64 0, .ls []]
def v241 : VV := .ls [[.i .i64 (-1), .i .i64 (-1), .i .i64 3, .i .i64 0, .i .i64 0, .i .i64 0, .b false, .b false, .ls []], [.i .i64 0, .i .i64 (-1), .i .i64 1, .i .i64 0, .i .i64 0, .i .i64 0, .b false, .b false, .ls []], [.i .i64 0, .i .i64 1, .i .i64 2, .i .i64 0, .i .i64 0, .i .i64 0, .b false, .b false, .ls []], [.i .i64 0, .i .i64 2, .i .i64 3, .i .i64 0, .i .i64 0, .i .i64 2, .b true, .b true, .ls [[.i .i64 0]]], [.i .i64 0, .i .i64 1, .i .i64 2, .i .i64 0, .i .i64 0, .i .i64 1, .b false, .b false, .ls []], [.i .i64 0, .i .i64 4, .i .i64 3, .i .i64 0, .i .i64 0, .i .i64 3, .b true, .b true, .ls [[.i .i64 1]]], [.i .i64 0, .i .i64 1, .i .i64 2, .i .i64 0, .i .i64 0, .i .i64 2, .b false, .b false, .ls []], [.i .i64 0, .i .i64 6, .i .i64 3, .i .i64 0, .i .i64 0, .i .i64 0, .b true, .b true, .ls [[.i .i64 2]]], [.i .i64 0, .i .i64 1, .i .i64 2, .i .i64 0, .i .i64 0, .i .i64 3, .b false, .b false, .ls []], [.i .i64 0, .i .i64 8, .i .i64 3, .i .i64 0, .i .i64 0, .i .i64 1, .b true, .b true, .ls [[.i .i64 3]]], [.i .i64 1, .i .i64 (-1), .i .i64 1, .i .i64 0, .i .i64 0, .i .i64 0, .b false, .b false, .ls []], [.i .i64 1, .i .i64 10, .i .i64 2, .i .i64 0, .i .i64 0, .i .i64 0, .b false, .b false, .ls []], [.i .i64 1, .i .i64 11, .i .i64 3, .i .i64 0, .i .i64 0, .i .i64 3, .b true, .b true, .ls [[.i .i64 0]]], [.i .i64 1, .i .i64 10, .i .i64 2, .i .i64 0, .i .i64 0, .i .i64 1, .b false, .b false, .ls []], [.i .i64 1, .i .i64 13, .i .i64 3, .i .i64 0, .i .i64 0, .i .i64 0, .b true, .b true, .ls [[.i .i64 1]]], [.i .i64 1, .i .i64 10, .i .i64 2, .i .i64 0, .i .i64 0, .i .i64 2, .b false, .b false, .ls []], [.i .i64 1, .i .i64 15, .i .i64 3, .i .i64 0, .i .i64 0, .i .i64 1, .b true, .b true, .ls [[.i .i64 2]]], [.i .i64 1, .i .i64 10, .i .i64 2, .i .i64 0, .i .i64 0, .i .i64 3, .b false, .b false, .ls []], [.i .i64 1, .i .i64 17, .i .i64 3, .i .i64 0, .i .i64 0, .i .i64 2, .b true, .b true, .ls [[.i .i64 3]]]]
def v242 : VV := .ag [.i .i64 4, .ls [[.s ⟨⟨[120]⟩⟩]], .ls [[.ls [[.s ⟨⟨[97]⟩⟩]]], [.ls [[.s ⟨⟨[97]⟩⟩]]]], v241]
def v243 : VV := .tu [v242, .b true]
def a12503 : Ans := ⟨n_withemade_Tree, [v240], v243⟩
theorem t12503 (C : VCode V) : VA V a12503 := VA_of (envOk C) C.c_withemade_Tree.1 C.c_withemade_Tree.2 (O := [a27, a9, a27, a3379, a27, a4356, a1002, a3382, a4359, a3385, a3385, a3385, a3385, a4362, a4362, a4362, a4362]) (.cons (t27 C) (.cons (t9 C) (.cons (t27 C) (.cons (t3379 C) (.cons (t27 C) (.cons (t4356 C) (.cons (t1002 C) (.cons (t3382 C) (.cons (t4359 C) (.cons (t3385 C) (.cons (t3385 C) (.cons (t3385 C) (.cons (t3385 C) (.cons (t4362 C) (.cons (t4362 C) (.cons (t4362 C) (.cons (t4362 C) .nil))))))))))))))))) (by kernel_rfl)
def a12579 : Ans := ⟨n_lts_May, [v242], .b true⟩
theorem t12579 (C : VCode V) : VA V a12579 := VA_of (envOk C) C.c_lts_May.1 C.c_lts_May.2 (O := []) .nil (by kernel_rfl)
def v244 : VV := .ag [.i .i64 4, .ls [[.s ⟨⟨[120]⟩⟩]], .ls [[.ls [[.s ⟨⟨[97]⟩⟩]]], [.ls [[.s ⟨⟨[97]⟩⟩]]]], v241, v41, v42]
def v245 : VV := .f n_tree_deep_before [v244] []
def a13303 : Ans := ⟨n_tree_deep_rows, [v244, v245], v45⟩
theorem t13303 (C : VCode V) : VA V a13303 := VA_of (envOk C) C.c_tree_deep_rows.1 C.c_tree_deep_rows.2 (O := []) .nil (by kernel_rfl)
def a13304 : Ans := ⟨n_tree_Po, [v242], v45⟩
theorem t13304 (C : VCode V) : VA V a13304 := VA_of (envOk C) C.c_tree_Po.1 C.c_tree_Po.2 (O := [a12579, a13303]) (.cons (t12579 C) (.cons (t13303 C) .nil)) (by kernel_rfl)
def a13316 : Ans := ⟨n_sync_Hb, [v242, v40, v49], v46⟩
theorem t13316 (C : VCode V) : VA V a13316 := VA_of (envOk C) C.c_sync_Hb.1 C.c_sync_Hb.2 (O := [a12579, a1095, a1097, a13304, a2025, a2033, a2071, a2101]) (.cons (t12579 C) (.cons (t1095 C) (.cons (t1097 C) (.cons (t13304 C) (.cons (t2025 C) (.cons (t2033 C) (.cons (t2071 C) (.cons (t2101 C) .nil)))))))) (by kernel_rfl)
def a13318 : Ans := ⟨n_cohe_Is, [v242, v50], .b true⟩
theorem t13318 (C : VCode V) : VA V a13318 := VA_of (envOk C) C.c_cohe_Is.1 C.c_cohe_Is.2 (O := [a13316, a2106]) (.cons (t13316 C) (.cons (t2106 C) .nil)) (by kernel_rfl)
def v246 : VV := .ag [.i .i64 4, .ls [[.s ⟨⟨[120]⟩⟩]], .ls [[.ls [[.s ⟨⟨[97]⟩⟩]]], [.ls [[.s ⟨⟨[97]⟩⟩]]]], v241, v40, v49, .ls [[.ls [[.i .i64 0], [.i .i64 3], [.i .i64 12]]]], v46]
def a13322 : Ans := ⟨n_exec_run_atomic, [v246], .b false⟩
theorem t13322 (C : VCode V) : VA V a13322 := VA_of (envOk C) C.c_exec_run_atomic.1 C.c_exec_run_atomic.2 (O := [a2114]) (.cons (t2114 C) .nil) (by kernel_rfl)
def a13323 : Ans := ⟨n_exec_Atomic, [v242, v50], .b false⟩
theorem t13323 (C : VCode V) : VA V a13323 := VA_of (envOk C) C.c_exec_Atomic.1 C.c_exec_Atomic.2 (O := [a13318, a13316, a13322]) (.cons (t13318 C) (.cons (t13316 C) (.cons (t13322 C) .nil))) (by kernel_rfl)
def a13325 : Ans := ⟨n_cohe_Is, [v242, v52], .b true⟩
theorem t13325 (C : VCode V) : VA V a13325 := VA_of (envOk C) C.c_cohe_Is.1 C.c_cohe_Is.2 (O := [a13316, a2119]) (.cons (t13316 C) (.cons (t2119 C) .nil)) (by kernel_rfl)
def v247 : VV := .ag [.i .i64 4, .ls [[.s ⟨⟨[120]⟩⟩]], .ls [[.ls [[.s ⟨⟨[97]⟩⟩]]], [.ls [[.s ⟨⟨[97]⟩⟩]]]], v241, v40, v49, .ls [[.ls [[.i .i64 0], [.i .i64 12], [.i .i64 3]]]], v46]
def a13328 : Ans := ⟨n_exec_run_atomic, [v247], .b false⟩
theorem t13328 (C : VCode V) : VA V a13328 := VA_of (envOk C) C.c_exec_run_atomic.1 C.c_exec_run_atomic.2 (O := []) .nil (by kernel_rfl)
def a13329 : Ans := ⟨n_exec_Atomic, [v242, v52], .b false⟩
theorem t13329 (C : VCode V) : VA V a13329 := VA_of (envOk C) C.c_exec_Atomic.1 C.c_exec_Atomic.2 (O := [a13325, a13316, a13328]) (.cons (t13325 C) (.cons (t13316 C) (.cons (t13328 C) .nil))) (by kernel_rfl)
def v248 : VV := .fp [.i .i64 4, .ls [[.s ⟨⟨[120]⟩⟩]], .ls [[.ls [[.s ⟨⟨[97]⟩⟩]]], [.ls [[.s ⟨⟨[97]⟩⟩]]]], v241] 0
def v249 : VV := .fp [.i .i64 4, .ls [[.s ⟨⟨[120]⟩⟩]], .ls [[.ls [[.s ⟨⟨[97]⟩⟩]]], [.ls [[.s ⟨⟨[97]⟩⟩]]]], v241, v40, v49, .ls [[.ls [[.i .i64 0], [.i .i64 3], [.i .i64 12]]]]] 0
def a13334 : Ans := ⟨n_cohe_Exec_1, [.i .i64 2, v248, v249], .i .i64 0⟩
theorem t13334 (C : VCode V) : VA V a13334 := VA_of (envOk C) C.c_cohe_Exec_1.1 C.c_cohe_Exec_1.2 (O := []) .nil (by kernel_rfl)
def a13336 : Ans := ⟨n_cohe_Exec_1, [.i .i64 3, v248, v249], .i .i64 1⟩
theorem t13336 (C : VCode V) : VA V a13336 := VA_of (envOk C) C.c_cohe_Exec_1.1 C.c_cohe_Exec_1.2 (O := []) .nil (by kernel_rfl)
def a13339 : Ans := ⟨n_cohe_Exec_1, [.i .i64 11, v248, v249], .i .i64 0⟩
theorem t13339 (C : VCode V) : VA V a13339 := VA_of (envOk C) C.c_cohe_Exec_1.1 C.c_cohe_Exec_1.2 (O := [a2114]) (.cons (t2114 C) .nil) (by kernel_rfl)
def a13341 : Ans := ⟨n_cohe_Exec_1, [.i .i64 12, v248, v249], .i .i64 2⟩
theorem t13341 (C : VCode V) : VA V a13341 := VA_of (envOk C) C.c_cohe_Exec_1.1 C.c_cohe_Exec_1.2 (O := []) .nil (by kernel_rfl)
def a13344 : Ans := ⟨n_exec_Good, [v242, v50], .b false⟩
theorem t13344 (C : VCode V) : VA V a13344 := VA_of (envOk C) C.c_exec_Good.1 C.c_exec_Good.2 (O := [a13318, a13316, a13318, a13316, a2140, a13334, a2148, a13336, a10234, a13339, a2159, a13341, a5206, a13334, a13336, a13334, a13336, a10242, a13339, a13341, a13339, a13341, a5209, a13322]) (.cons (t13318 C) (.cons (t13316 C) (.cons (t13318 C) (.cons (t13316 C) (.cons (t2140 C) (.cons (t13334 C) (.cons (t2148 C) (.cons (t13336 C) (.cons (t10234 C) (.cons (t13339 C) (.cons (t2159 C) (.cons (t13341 C) (.cons (t5206 C) (.cons (t13334 C) (.cons (t13336 C) (.cons (t13334 C) (.cons (t13336 C) (.cons (t10242 C) (.cons (t13339 C) (.cons (t13341 C) (.cons (t13339 C) (.cons (t13341 C) (.cons (t5209 C) (.cons (t13322 C) .nil)))))))))))))))))))))))) (by kernel_rfl)
def v250 : VV := .fp [.i .i64 4, .ls [[.s ⟨⟨[120]⟩⟩]], .ls [[.ls [[.s ⟨⟨[97]⟩⟩]]], [.ls [[.s ⟨⟨[97]⟩⟩]]]], v241, v40, v49, .ls [[.ls [[.i .i64 0], [.i .i64 12], [.i .i64 3]]]]] 0
def a13349 : Ans := ⟨n_cohe_Exec_1, [.i .i64 2, v248, v250], .i .i64 0⟩
theorem t13349 (C : VCode V) : VA V a13349 := VA_of (envOk C) C.c_cohe_Exec_1.1 C.c_cohe_Exec_1.2 (O := []) .nil (by kernel_rfl)
def a13351 : Ans := ⟨n_cohe_Exec_1, [.i .i64 3, v248, v250], .i .i64 2⟩
theorem t13351 (C : VCode V) : VA V a13351 := VA_of (envOk C) C.c_cohe_Exec_1.1 C.c_cohe_Exec_1.2 (O := []) .nil (by kernel_rfl)
def a13354 : Ans := ⟨n_cohe_Exec_1, [.i .i64 11, v248, v250], .i .i64 0⟩
theorem t13354 (C : VCode V) : VA V a13354 := VA_of (envOk C) C.c_cohe_Exec_1.1 C.c_cohe_Exec_1.2 (O := [a2114]) (.cons (t2114 C) .nil) (by kernel_rfl)
def a13356 : Ans := ⟨n_cohe_Exec_1, [.i .i64 12, v248, v250], .i .i64 1⟩
theorem t13356 (C : VCode V) : VA V a13356 := VA_of (envOk C) C.c_cohe_Exec_1.1 C.c_cohe_Exec_1.2 (O := []) .nil (by kernel_rfl)
def a13359 : Ans := ⟨n_exec_Good, [v242, v52], .b false⟩
theorem t13359 (C : VCode V) : VA V a13359 := VA_of (envOk C) C.c_exec_Good.1 C.c_exec_Good.2 (O := [a13325, a13316, a13325, a13316, a2140, a13349, a2148, a13351, a10255, a13354, a2159, a13356, a5227, a13349, a13351, a13349, a13351, a10263, a13354, a13356, a13354, a13356, a5230, a13328]) (.cons (t13325 C) (.cons (t13316 C) (.cons (t13325 C) (.cons (t13316 C) (.cons (t2140 C) (.cons (t13349 C) (.cons (t2148 C) (.cons (t13351 C) (.cons (t10255 C) (.cons (t13354 C) (.cons (t2159 C) (.cons (t13356 C) (.cons (t5227 C) (.cons (t13349 C) (.cons (t13351 C) (.cons (t13349 C) (.cons (t13351 C) (.cons (t10263 C) (.cons (t13354 C) (.cons (t13356 C) (.cons (t13354 C) (.cons (t13356 C) (.cons (t5230 C) (.cons (t13328 C) .nil)))))))))))))))))))))))) (by kernel_rfl)
def a13382 : Ans := ⟨n_sync_Hb, [v242, v199, v63], v200⟩
theorem t13382 (C : VCode V) : VA V a13382 := VA_of (envOk C) C.c_sync_Hb.1 C.c_sync_Hb.2 (O := [a12579, a10267, a1097, a13304, a10315, a10323, a10323, a10368, a10396]) (.cons (t12579 C) (.cons (t10267 C) (.cons (t1097 C) (.cons (t13304 C) (.cons (t10315 C) (.cons (t10323 C) (.cons (t10323 C) (.cons (t10368 C) (.cons (t10396 C) .nil))))))))) (by kernel_rfl)
def a13384 : Ans := ⟨n_cohe_Is, [v242, v202], .b true⟩
theorem t13384 (C : VCode V) : VA V a13384 := VA_of (envOk C) C.c_cohe_Is.1 C.c_cohe_Is.2 (O := [a13382, a10401]) (.cons (t13382 C) (.cons (t10401 C) .nil)) (by kernel_rfl)
def v251 : VV := .ag [.i .i64 4, .ls [[.s ⟨⟨[120]⟩⟩]], .ls [[.ls [[.s ⟨⟨[97]⟩⟩]]], [.ls [[.s ⟨⟨[97]⟩⟩]]]], v241, v199, v63, .ls [[.ls [[.i .i64 0], [.i .i64 3], [.i .i64 16]]]], v200]
def a13388 : Ans := ⟨n_exec_run_atomic, [v251], .b true⟩
theorem t13388 (C : VCode V) : VA V a13388 := VA_of (envOk C) C.c_exec_run_atomic.1 C.c_exec_run_atomic.2 (O := [a10409]) (.cons (t10409 C) .nil) (by kernel_rfl)
def a13389 : Ans := ⟨n_exec_Atomic, [v242, v202], .b true⟩
theorem t13389 (C : VCode V) : VA V a13389 := VA_of (envOk C) C.c_exec_Atomic.1 C.c_exec_Atomic.2 (O := [a13384, a13382, a13388]) (.cons (t13384 C) (.cons (t13382 C) (.cons (t13388 C) .nil))) (by kernel_rfl)
def v252 : VV := .fp [.i .i64 4, .ls [[.s ⟨⟨[120]⟩⟩]], .ls [[.ls [[.s ⟨⟨[97]⟩⟩]]], [.ls [[.s ⟨⟨[97]⟩⟩]]]], v241, v199, v63, .ls [[.ls [[.i .i64 0], [.i .i64 3], [.i .i64 16]]]]] 0
def a13394 : Ans := ⟨n_cohe_Exec_1, [.i .i64 2, v248, v252], .i .i64 0⟩
theorem t13394 (C : VCode V) : VA V a13394 := VA_of (envOk C) C.c_cohe_Exec_1.1 C.c_cohe_Exec_1.2 (O := []) .nil (by kernel_rfl)
def a13396 : Ans := ⟨n_cohe_Exec_1, [.i .i64 3, v248, v252], .i .i64 1⟩
theorem t13396 (C : VCode V) : VA V a13396 := VA_of (envOk C) C.c_cohe_Exec_1.1 C.c_cohe_Exec_1.2 (O := []) .nil (by kernel_rfl)
def a13399 : Ans := ⟨n_cohe_Exec_1, [.i .i64 15, v248, v252], .i .i64 1⟩
theorem t13399 (C : VCode V) : VA V a13399 := VA_of (envOk C) C.c_cohe_Exec_1.1 C.c_cohe_Exec_1.2 (O := [a10409]) (.cons (t10409 C) .nil) (by kernel_rfl)
def a13401 : Ans := ⟨n_cohe_Exec_1, [.i .i64 16, v248, v252], .i .i64 2⟩
theorem t13401 (C : VCode V) : VA V a13401 := VA_of (envOk C) C.c_cohe_Exec_1.1 C.c_cohe_Exec_1.2 (O := []) .nil (by kernel_rfl)
def a13411 : Ans := ⟨n_exec_run_behind, [v251, .i .i64 0], .i .u64 65544⟩
theorem t13411 (C : VCode V) : VA V a13411 := VA_of (envOk C) C.c_exec_run_behind.1 C.c_exec_run_behind.2 (O := []) .nil (by kernel_rfl)
def a13423 : Ans := ⟨n_exec_run_behind, [v251, .i .i64 3], .i .u64 65536⟩
theorem t13423 (C : VCode V) : VA V a13423 := VA_of (envOk C) C.c_exec_run_behind.1 C.c_exec_run_behind.2 (O := []) .nil (by kernel_rfl)
def a13449 : Ans := ⟨n_exec_Good, [v242, v202], .b true⟩
theorem t13449 (C : VCode V) : VA V a13449 := VA_of (envOk C) C.c_exec_Good.1 C.c_exec_Good.2 (O := [a13384, a13382, a13384, a13382, a10417, a13394, a2148, a13396, a10234, a13399, a10430, a13401, a13394, a13396, a13394, a13396, a10242, a13399, a13401, a13399, a13401, a13388, a13411, a13411, a13423, a10409, a13423, a10476, a10521, a10552, a10554, a2383]) (.cons (t13384 C) (.cons (t13382 C) (.cons (t13384 C) (.cons (t13382 C) (.cons (t10417 C) (.cons (t13394 C) (.cons (t2148 C) (.cons (t13396 C) (.cons (t10234 C) (.cons (t13399 C) (.cons (t10430 C) (.cons (t13401 C) (.cons (t13394 C) (.cons (t13396 C) (.cons (t13394 C) (.cons (t13396 C) (.cons (t10242 C) (.cons (t13399 C) (.cons (t13401 C) (.cons (t13399 C) (.cons (t13401 C) (.cons (t13388 C) (.cons (t13411 C) (.cons (t13411 C) (.cons (t13423 C) (.cons (t10409 C) (.cons (t13423 C) (.cons (t10476 C) (.cons (t10521 C) (.cons (t10552 C) (.cons (t10554 C) (.cons (t2383 C) .nil)))))))))))))))))))))))))))))))) (by kernel_rfl)
def a13458 : Ans := ⟨n_witheref17_ExecForm, [v242, v202], .b true⟩
theorem t13458 (C : VCode V) : VA V a13458 := VA_of (envOk C) C.c_witheref17_ExecForm.1 C.c_witheref17_ExecForm.2 (O := [a10576]) (.cons (t10576 C) .nil) (by kernel_rfl)
end
end Go.AM
