/-
  Certificates: what calls answer, each carried out by the kernel.
-/
import Derived.Test.YtgenbmicpdkhlaaGreatDoorCeE
import Derived.KernelRfl
import Derived.Test.YtgenbmicpdkhlaaGreatDoorCe0
import Derived.Test.YtgenbmicpdkhlaaGreatDoorCe1
import Derived.Test.YtgenbmicpdkhlaaGreatDoorCe4
set_option linter.unusedVariables false
set_option linter.unusedSimpArgs false
set_option linter.unusedSectionVars false
set_option linter.unnecessarySimpa false
set_option maxRecDepth 1000000
set_option maxHeartbeats 4000000
namespace Go.AM
section
variable {V : VProg}
def v253 : VV := .ls [[v103], [v33]]
def v254 : VV := .ag [.s ⟨⟨[97]⟩⟩, .i .i64 4, .ls [[.s ⟨⟨[120]⟩⟩, .i .i64 0]], v253, .i .i64 1, .i .i64 1, .i .i64 0, .s ⟨⟨[120]⟩⟩, .i .i64 0, .ls []]
def v255 : VV := .ls [[.i .i64 (-1), .i .i64 (-1), .i .i64 3, .i .i64 0, .i .i64 0, .i .i64 0, .b false, .b false, .ls []], [.i .i64 0, .i .i64 (-1), .i .i64 1, .i .i64 0, .i .i64 0, .i .i64 0, .b false, .b false, .ls []], [.i .i64 0, .i .i64 1, .i .i64 2, .i .i64 0, .i .i64 0, .i .i64 0, .b false, .b false, .ls []], [.i .i64 0, .i .i64 2, .i .i64 3, .i .i64 0, .i .i64 0, .i .i64 3, .b true, .b true, .ls [[.i .i64 0]]], [.i .i64 0, .i .i64 1, .i .i64 2, .i .i64 0, .i .i64 0, .i .i64 1, .b false, .b false, .ls []], [.i .i64 0, .i .i64 4, .i .i64 3, .i .i64 0, .i .i64 0, .i .i64 0, .b true, .b true, .ls [[.i .i64 1]]], [.i .i64 0, .i .i64 1, .i .i64 2, .i .i64 0, .i .i64 0, .i .i64 2, .b false, .b false, .ls []], [.i .i64 0, .i .i64 6, .i .i64 3, .i .i64 0, .i .i64 0, .i .i64 1, .b true, .b true, .ls [[.i .i64 2]]], [.i .i64 0, .i .i64 1, .i .i64 2, .i .i64 0, .i .i64 0, .i .i64 3, .b false, .b false, .ls []], [.i .i64 0, .i .i64 8, .i .i64 3, .i .i64 0, .i .i64 0, .i .i64 2, .b true, .b true, .ls [[.i .i64 3]]], [.i .i64 1, .i .i64 (-1), .i .i64 1, .i .i64 0, .i .i64 0, .i .i64 0, .b false, .b false, .ls []], [.i .i64 1, .i .i64 10, .i .i64 2, .i .i64 0, .i .i64 0, .i .i64 0, .b false, .b false, .ls []], [.i .i64 1, .i .i64 11, .i .i64 3, .i .i64 0, .i .i64 0, .i .i64 0, .b true, .b true, .ls [[.i .i64 0]]], [.i .i64 1, .i .i64 10, .i .i64 2, .i .i64 0, .i .i64 0, .i .i64 1, .b false, .b false, .ls []], [.i .i64 1, .i .i64 13, .i .i64 3, .i .i64 0, .i .i64 0, .i .i64 1, .b true, .b true, .ls [[.i .i64 1]]], [.i .i64 1, .i .i64 10, .i .i64 2, .i .i64 0, .i .i64 0, .i .i64 2, .b false, .b false, .ls []], [.i .i64 1, .i .i64 15, .i .i64 3, .i .i64 0, .i .i64 0, .i .i64 2, .b true, .b true, .ls [[.i .i64 2]]], [.i .i64 1, .i .i64 10, .i .i64 2, .i .i64 0, .i .i64 0, .i .i64 3, .b false, .b false, .ls []], [.i .i64 1, .i .i64 17, .i .i64 3, .i .i64 0, .i .i64 0, .i .i64 3, .b true, .b true, .ls [[.i .i64 3]]]]
def v256 : VV := .ag [.i .i64 4, .ls [[.s ⟨⟨[120]⟩⟩]], .ls [[.ls [[.s ⟨⟨[97]⟩⟩]]], [.ls [[.s ⟨⟨[97]⟩⟩]]]], v255]
def v257 : VV := .tu [v256, .b true]
def a13463 : Ans := ⟨n_withemade_Tree, [v254], v257⟩
theorem t13463 (C : VCode V) : VA V a13463 := VA_of (envOk C) C.c_withemade_Tree.1 C.c_withemade_Tree.2 (O := [a27, a9, a27, a4356, a27, a1000, a1002, a4359, a1005, a4362, a4362, a4362, a4362, a1009, a1009, a1009, a1009]) (.cons (t27 C) (.cons (t9 C) (.cons (t27 C) (.cons (t4356 C) (.cons (t27 C) (.cons (t1000 C) (.cons (t1002 C) (.cons (t4359 C) (.cons (t1005 C) (.cons (t4362 C) (.cons (t4362 C) (.cons (t4362 C) (.cons (t4362 C) (.cons (t1009 C) (.cons (t1009 C) (.cons (t1009 C) (.cons (t1009 C) .nil))))))))))))))))) (by kernel_rfl)
def a13539 : Ans := ⟨n_lts_May, [v256], .b true⟩
theorem t13539 (C : VCode V) : VA V a13539 := VA_of (envOk C) C.c_lts_May.1 C.c_lts_May.2 (O := []) .nil (by kernel_rfl)
def v258 : VV := .ag [.i .i64 4, .ls [[.s ⟨⟨[120]⟩⟩]], .ls [[.ls [[.s ⟨⟨[97]⟩⟩]]], [.ls [[.s ⟨⟨[97]⟩⟩]]]], v255, v41, v42]
def v259 : VV := .f n_tree_deep_before [v258] []
def a14263 : Ans := ⟨n_tree_deep_rows, [v258, v259], v45⟩
theorem t14263 (C : VCode V) : VA V a14263 := VA_of (envOk C) C.c_tree_deep_rows.1 C.c_tree_deep_rows.2 (O := []) .nil (by kernel_rfl)
def a14264 : Ans := ⟨n_tree_Po, [v256], v45⟩
theorem t14264 (C : VCode V) : VA V a14264 := VA_of (envOk C) C.c_tree_Po.1 C.c_tree_Po.2 (O := [a13539, a14263]) (.cons (t13539 C) (.cons (t14263 C) .nil)) (by kernel_rfl)
def a14276 : Ans := ⟨n_sync_Hb, [v256, v40, v49], v46⟩
theorem t14276 (C : VCode V) : VA V a14276 := VA_of (envOk C) C.c_sync_Hb.1 C.c_sync_Hb.2 (O := [a13539, a1095, a1097, a14264, a2025, a2033, a2071, a2101]) (.cons (t13539 C) (.cons (t1095 C) (.cons (t1097 C) (.cons (t14264 C) (.cons (t2025 C) (.cons (t2033 C) (.cons (t2071 C) (.cons (t2101 C) .nil)))))))) (by kernel_rfl)
def a14278 : Ans := ⟨n_cohe_Is, [v256, v50], .b true⟩
theorem t14278 (C : VCode V) : VA V a14278 := VA_of (envOk C) C.c_cohe_Is.1 C.c_cohe_Is.2 (O := [a14276, a2106]) (.cons (t14276 C) (.cons (t2106 C) .nil)) (by kernel_rfl)
def v260 : VV := .ag [.i .i64 4, .ls [[.s ⟨⟨[120]⟩⟩]], .ls [[.ls [[.s ⟨⟨[97]⟩⟩]]], [.ls [[.s ⟨⟨[97]⟩⟩]]]], v255, v40, v49, .ls [[.ls [[.i .i64 0], [.i .i64 3], [.i .i64 12]]]], v46]
def a14282 : Ans := ⟨n_exec_run_atomic, [v260], .b false⟩
theorem t14282 (C : VCode V) : VA V a14282 := VA_of (envOk C) C.c_exec_run_atomic.1 C.c_exec_run_atomic.2 (O := [a2114]) (.cons (t2114 C) .nil) (by kernel_rfl)
def a14283 : Ans := ⟨n_exec_Atomic, [v256, v50], .b false⟩
theorem t14283 (C : VCode V) : VA V a14283 := VA_of (envOk C) C.c_exec_Atomic.1 C.c_exec_Atomic.2 (O := [a14278, a14276, a14282]) (.cons (t14278 C) (.cons (t14276 C) (.cons (t14282 C) .nil))) (by kernel_rfl)
def a14285 : Ans := ⟨n_cohe_Is, [v256, v52], .b true⟩
theorem t14285 (C : VCode V) : VA V a14285 := VA_of (envOk C) C.c_cohe_Is.1 C.c_cohe_Is.2 (O := [a14276, a2119]) (.cons (t14276 C) (.cons (t2119 C) .nil)) (by kernel_rfl)
def v261 : VV := .ag [.i .i64 4, .ls [[.s ⟨⟨[120]⟩⟩]], .ls [[.ls [[.s ⟨⟨[97]⟩⟩]]], [.ls [[.s ⟨⟨[97]⟩⟩]]]], v255, v40, v49, .ls [[.ls [[.i .i64 0], [.i .i64 12], [.i .i64 3]]]], v46]
def a14288 : Ans := ⟨n_exec_run_atomic, [v261], .b false⟩
theorem t14288 (C : VCode V) : VA V a14288 := VA_of (envOk C) C.c_exec_run_atomic.1 C.c_exec_run_atomic.2 (O := []) .nil (by kernel_rfl)
def a14289 : Ans := ⟨n_exec_Atomic, [v256, v52], .b false⟩
theorem t14289 (C : VCode V) : VA V a14289 := VA_of (envOk C) C.c_exec_Atomic.1 C.c_exec_Atomic.2 (O := [a14285, a14276, a14288]) (.cons (t14285 C) (.cons (t14276 C) (.cons (t14288 C) .nil))) (by kernel_rfl)
def v262 : VV := .fp [.i .i64 4, .ls [[.s ⟨⟨[120]⟩⟩]], .ls [[.ls [[.s ⟨⟨[97]⟩⟩]]], [.ls [[.s ⟨⟨[97]⟩⟩]]]], v255] 0
def v263 : VV := .fp [.i .i64 4, .ls [[.s ⟨⟨[120]⟩⟩]], .ls [[.ls [[.s ⟨⟨[97]⟩⟩]]], [.ls [[.s ⟨⟨[97]⟩⟩]]]], v255, v40, v49, .ls [[.ls [[.i .i64 0], [.i .i64 3], [.i .i64 12]]]]] 0
def a14294 : Ans := ⟨n_cohe_Exec_1, [.i .i64 2, v262, v263], .i .i64 0⟩
theorem t14294 (C : VCode V) : VA V a14294 := VA_of (envOk C) C.c_cohe_Exec_1.1 C.c_cohe_Exec_1.2 (O := []) .nil (by kernel_rfl)
def a14296 : Ans := ⟨n_cohe_Exec_1, [.i .i64 3, v262, v263], .i .i64 1⟩
theorem t14296 (C : VCode V) : VA V a14296 := VA_of (envOk C) C.c_cohe_Exec_1.1 C.c_cohe_Exec_1.2 (O := []) .nil (by kernel_rfl)
def v264 : VV := .ag [.i .i64 0, .i .i64 2, .i .i64 3, .i .i64 0, .i .i64 0, .i .i64 3, .b true, .b true, .ls [[.i .i64 0]]]
def a14299 : Ans := ⟨n_cohe_Pair, [v57, v264, .i .i64 0, .i .i64 1], .b true⟩
theorem t14299 (C : VCode V) : VA V a14299 := VA_of (envOk C) C.c_cohe_Pair.1 C.c_cohe_Pair.2 (O := []) .nil (by kernel_rfl)
def a14302 : Ans := ⟨n_cohe_Exec_1, [.i .i64 11, v262, v263], .i .i64 0⟩
theorem t14302 (C : VCode V) : VA V a14302 := VA_of (envOk C) C.c_cohe_Exec_1.1 C.c_cohe_Exec_1.2 (O := [a2114]) (.cons (t2114 C) .nil) (by kernel_rfl)
def a14304 : Ans := ⟨n_cohe_Exec_1, [.i .i64 12, v262, v263], .i .i64 2⟩
theorem t14304 (C : VCode V) : VA V a14304 := VA_of (envOk C) C.c_cohe_Exec_1.1 C.c_cohe_Exec_1.2 (O := []) .nil (by kernel_rfl)
def a14307 : Ans := ⟨n_cohe_Pair, [v58, v264, .i .i64 0, .i .i64 1], .b true⟩
theorem t14307 (C : VCode V) : VA V a14307 := VA_of (envOk C) C.c_cohe_Pair.1 C.c_cohe_Pair.2 (O := []) .nil (by kernel_rfl)
def a14310 : Ans := ⟨n_exec_Good, [v256, v50], .b false⟩
theorem t14310 (C : VCode V) : VA V a14310 := VA_of (envOk C) C.c_exec_Good.1 C.c_exec_Good.2 (O := [a14278, a14276, a14278, a14276, a2140, a14294, a2148, a14296, a14299, a14302, a2159, a14304, a2164, a14294, a14296, a14294, a14296, a14307, a14302, a14304, a14302, a14304, a2172, a14282]) (.cons (t14278 C) (.cons (t14276 C) (.cons (t14278 C) (.cons (t14276 C) (.cons (t2140 C) (.cons (t14294 C) (.cons (t2148 C) (.cons (t14296 C) (.cons (t14299 C) (.cons (t14302 C) (.cons (t2159 C) (.cons (t14304 C) (.cons (t2164 C) (.cons (t14294 C) (.cons (t14296 C) (.cons (t14294 C) (.cons (t14296 C) (.cons (t14307 C) (.cons (t14302 C) (.cons (t14304 C) (.cons (t14302 C) (.cons (t14304 C) (.cons (t2172 C) (.cons (t14282 C) .nil)))))))))))))))))))))))) (by kernel_rfl)
def v265 : VV := .fp [.i .i64 4, .ls [[.s ⟨⟨[120]⟩⟩]], .ls [[.ls [[.s ⟨⟨[97]⟩⟩]]], [.ls [[.s ⟨⟨[97]⟩⟩]]]], v255, v40, v49, .ls [[.ls [[.i .i64 0], [.i .i64 12], [.i .i64 3]]]]] 0
def a14315 : Ans := ⟨n_cohe_Exec_1, [.i .i64 2, v262, v265], .i .i64 0⟩
theorem t14315 (C : VCode V) : VA V a14315 := VA_of (envOk C) C.c_cohe_Exec_1.1 C.c_cohe_Exec_1.2 (O := []) .nil (by kernel_rfl)
def a14317 : Ans := ⟨n_cohe_Exec_1, [.i .i64 3, v262, v265], .i .i64 2⟩
theorem t14317 (C : VCode V) : VA V a14317 := VA_of (envOk C) C.c_cohe_Exec_1.1 C.c_cohe_Exec_1.2 (O := []) .nil (by kernel_rfl)
def a14320 : Ans := ⟨n_cohe_Pair, [v57, v264, .i .i64 0, .i .i64 2], .b true⟩
theorem t14320 (C : VCode V) : VA V a14320 := VA_of (envOk C) C.c_cohe_Pair.1 C.c_cohe_Pair.2 (O := []) .nil (by kernel_rfl)
def a14323 : Ans := ⟨n_cohe_Exec_1, [.i .i64 11, v262, v265], .i .i64 0⟩
theorem t14323 (C : VCode V) : VA V a14323 := VA_of (envOk C) C.c_cohe_Exec_1.1 C.c_cohe_Exec_1.2 (O := [a2114]) (.cons (t2114 C) .nil) (by kernel_rfl)
def a14325 : Ans := ⟨n_cohe_Exec_1, [.i .i64 12, v262, v265], .i .i64 1⟩
theorem t14325 (C : VCode V) : VA V a14325 := VA_of (envOk C) C.c_cohe_Exec_1.1 C.c_cohe_Exec_1.2 (O := []) .nil (by kernel_rfl)
def a14328 : Ans := ⟨n_cohe_Pair, [v58, v264, .i .i64 0, .i .i64 2], .b true⟩
theorem t14328 (C : VCode V) : VA V a14328 := VA_of (envOk C) C.c_cohe_Pair.1 C.c_cohe_Pair.2 (O := []) .nil (by kernel_rfl)
def a14331 : Ans := ⟨n_exec_Good, [v256, v52], .b false⟩
theorem t14331 (C : VCode V) : VA V a14331 := VA_of (envOk C) C.c_exec_Good.1 C.c_exec_Good.2 (O := [a14285, a14276, a14285, a14276, a2140, a14315, a2148, a14317, a14320, a14323, a2159, a14325, a2194, a14315, a14317, a14315, a14317, a14328, a14323, a14325, a14323, a14325, a2200, a14288]) (.cons (t14285 C) (.cons (t14276 C) (.cons (t14285 C) (.cons (t14276 C) (.cons (t2140 C) (.cons (t14315 C) (.cons (t2148 C) (.cons (t14317 C) (.cons (t14320 C) (.cons (t14323 C) (.cons (t2159 C) (.cons (t14325 C) (.cons (t2194 C) (.cons (t14315 C) (.cons (t14317 C) (.cons (t14315 C) (.cons (t14317 C) (.cons (t14328 C) (.cons (t14323 C) (.cons (t14325 C) (.cons (t14323 C) (.cons (t14325 C) (.cons (t2200 C) (.cons (t14288 C) .nil)))))))))))))))))))))))) (by kernel_rfl)
def v266 : VV := .ls [[.i .i64 0], [.i .i64 1], [.i .i64 2], [.i .i64 3], [.i .i64 10], [.i .i64 17], [.i .i64 18]]
def a14332 : Ans := ⟨n_bits_Of, [v266], .i .u64 394255⟩
theorem t14332 (C : VCode V) : VA V a14332 := VA_of (envOk C) C.c_bits_Of.1 C.c_bits_Of.2 (O := []) .nil (by kernel_rfl)
def v267 : VV := .ls [[.i .u64 394254], [.i .u64 12], [.i .u64 8], [.i .u64 0], [.i .u64 0], [.i .u64 0], [.i .u64 0], [.i .u64 0], [.i .u64 0], [.i .u64 0], [.i .u64 393216], [.i .u64 0], [.i .u64 0], [.i .u64 0], [.i .u64 0], [.i .u64 0], [.i .u64 0], [.i .u64 262144], [.i .u64 0]]
def a14380 : Ans := ⟨n_rel_Keep, [v45, .i .u64 394255], v267⟩
theorem t14380 (C : VCode V) : VA V a14380 := VA_of (envOk C) C.c_rel_Keep.1 C.c_rel_Keep.2 (O := [a1986]) (.cons (t1986 C) .nil) (by kernel_rfl)
def a14388 : Ans := ⟨n_bits_List, [.i .u64 394255], v266⟩
theorem t14388 (C : VCode V) : VA V a14388 := VA_of (envOk C) C.c_bits_List.1 C.c_bits_List.2 (O := []) .nil (by kernel_rfl)
def a14410 : Ans := ⟨n_rel_May, [v267], .b true⟩
theorem t14410 (C : VCode V) : VA V a14410 := VA_of (envOk C) C.c_rel_May.1 C.c_rel_May.2 (O := [a1959]) (.cons (t1959 C) .nil) (by kernel_rfl)
def a14433 : Ans := ⟨n_rel_Or, [v267, v47], v267⟩
theorem t14433 (C : VCode V) : VA V a14433 := VA_of (envOk C) C.c_rel_Or.1 C.c_rel_Or.2 (O := [a14410, a2048]) (.cons (t14410 C) (.cons (t2048 C) .nil)) (by kernel_rfl)
def v268 : VV := .ls [[.i .i64 1], [.i .i64 2], [.i .i64 3], [.i .i64 10], [.i .i64 17], [.i .i64 18]]
def a14434 : Ans := ⟨n_bits_List, [.i .u64 394254], v268⟩
theorem t14434 (C : VCode V) : VA V a14434 := VA_of (envOk C) C.c_bits_List.1 C.c_bits_List.2 (O := []) .nil (by kernel_rfl)
def a14450 : Ans := ⟨n_reach_graph_grown, [v267, .i .u64 0, .f n_reach_graph_ahead [] []], .i .u64 0⟩
theorem t14450 (C : VCode V) : VA V a14450 := VA_of (envOk C) C.c_reach_graph_grown.1 C.c_reach_graph_grown.2 (O := [a14410, a1959]) (.cons (t14410 C) (.cons (t1959 C) .nil)) (by kernel_rfl)
def a14451 : Ans := ⟨n_bits_List, [.i .u64 393216], .ls [[.i .i64 17], [.i .i64 18]]⟩
theorem t14451 (C : VCode V) : VA V a14451 := VA_of (envOk C) C.c_bits_List.1 C.c_bits_List.2 (O := []) .nil (by kernel_rfl)
def a14461 : Ans := ⟨n_reach_Plus, [v267], v267⟩
theorem t14461 (C : VCode V) : VA V a14461 := VA_of (envOk C) C.c_reach_Plus.1 C.c_reach_Plus.2 (O := [a14410, a14410, a1959, a14434, a14410, a1959, a2078, a14410, a1959, a14450, a14450, a14450, a14450, a14450, a14450, a14450, a14410, a1959, a14451, a14450, a14450, a14450, a14450, a14450, a14450, a14410, a1959, a14450]) (.cons (t14410 C) (.cons (t14410 C) (.cons (t1959 C) (.cons (t14434 C) (.cons (t14410 C) (.cons (t1959 C) (.cons (t2078 C) (.cons (t14410 C) (.cons (t1959 C) (.cons (t14450 C) (.cons (t14450 C) (.cons (t14450 C) (.cons (t14450 C) (.cons (t14450 C) (.cons (t14450 C) (.cons (t14450 C) (.cons (t14410 C) (.cons (t1959 C) (.cons (t14451 C) (.cons (t14450 C) (.cons (t14450 C) (.cons (t14450 C) (.cons (t14450 C) (.cons (t14450 C) (.cons (t14450 C) (.cons (t14410 C) (.cons (t1959 C) (.cons (t14450 C) .nil)))))))))))))))))))))))))))) (by kernel_rfl)
def a14462 : Ans := ⟨n_sync_Hb, [v256, v266, v63], v267⟩
theorem t14462 (C : VCode V) : VA V a14462 := VA_of (envOk C) C.c_sync_Hb.1 C.c_sync_Hb.2 (O := [a13539, a14332, a1097, a14264, a14380, a14388, a14388, a14433, a14461]) (.cons (t13539 C) (.cons (t14332 C) (.cons (t1097 C) (.cons (t14264 C) (.cons (t14380 C) (.cons (t14388 C) (.cons (t14388 C) (.cons (t14433 C) (.cons (t14461 C) .nil))))))))) (by kernel_rfl)
def a14466 : Ans := ⟨n_bits_Of, [.ls [[.i .i64 0], [.i .i64 3], [.i .i64 18]]], .i .u64 262153⟩
theorem t14466 (C : VCode V) : VA V a14466 := VA_of (envOk C) C.c_bits_Of.1 C.c_bits_Of.2 (O := []) .nil (by kernel_rfl)
def v269 : VV := .ag [v266, v63, .ls [[.ls [[.i .i64 0], [.i .i64 3], [.i .i64 18]]]]]
def a14468 : Ans := ⟨n_cohe_Is, [v256, v269], .b true⟩
theorem t14468 (C : VCode V) : VA V a14468 := VA_of (envOk C) C.c_cohe_Is.1 C.c_cohe_Is.2 (O := [a14462, a14466]) (.cons (t14462 C) (.cons (t14466 C) .nil)) (by kernel_rfl)
def a14474 : Ans := ⟨n_slices_Index_sint_int, [v266, .i .i64 17], .i .i64 5⟩
theorem t14474 (C : VCode V) : VA V a14474 := VA_of (envOk C) C.c_slices_Index_sint_int.1 C.c_slices_Index_sint_int.2 (O := []) .nil (by kernel_rfl)
def v270 : VV := .ag [.i .i64 4, .ls [[.s ⟨⟨[120]⟩⟩]], .ls [[.ls [[.s ⟨⟨[97]⟩⟩]]], [.ls [[.s ⟨⟨[97]⟩⟩]]]], v255, v266, v63, .ls [[.ls [[.i .i64 0], [.i .i64 3], [.i .i64 18]]]], v267]
def a14477 : Ans := ⟨n_exec_run_atomic, [v270], .b true⟩
theorem t14477 (C : VCode V) : VA V a14477 := VA_of (envOk C) C.c_exec_run_atomic.1 C.c_exec_run_atomic.2 (O := [a14474]) (.cons (t14474 C) .nil) (by kernel_rfl)
def a14478 : Ans := ⟨n_exec_Atomic, [v256, v269], .b true⟩
theorem t14478 (C : VCode V) : VA V a14478 := VA_of (envOk C) C.c_exec_Atomic.1 C.c_exec_Atomic.2 (O := [a14468, a14462, a14477]) (.cons (t14468 C) (.cons (t14462 C) (.cons (t14477 C) .nil))) (by kernel_rfl)
def v271 : VV := .ls [[.i .i64 0, .i .i64 1], [.i .i64 0, .i .i64 2], [.i .i64 0, .i .i64 3], [.i .i64 0, .i .i64 10], [.i .i64 0, .i .i64 17], [.i .i64 0, .i .i64 18], [.i .i64 1, .i .i64 2], [.i .i64 1, .i .i64 3], [.i .i64 2, .i .i64 3], [.i .i64 10, .i .i64 17], [.i .i64 10, .i .i64 18], [.i .i64 17, .i .i64 18]]
def a14482 : Ans := ⟨n_rel_Pairs, [v267], v271⟩
theorem t14482 (C : VCode V) : VA V a14482 := VA_of (envOk C) C.c_rel_Pairs.1 C.c_rel_Pairs.2 (O := [a14410, a14434, a2078, a14451]) (.cons (t14410 C) (.cons (t14434 C) (.cons (t2078 C) (.cons (t14451 C) .nil)))) (by kernel_rfl)
def v272 : VV := .fp [.i .i64 4, .ls [[.s ⟨⟨[120]⟩⟩]], .ls [[.ls [[.s ⟨⟨[97]⟩⟩]]], [.ls [[.s ⟨⟨[97]⟩⟩]]]], v255, v266, v63, .ls [[.ls [[.i .i64 0], [.i .i64 3], [.i .i64 18]]]]] 0
def a14487 : Ans := ⟨n_cohe_Exec_1, [.i .i64 2, v262, v272], .i .i64 0⟩
theorem t14487 (C : VCode V) : VA V a14487 := VA_of (envOk C) C.c_cohe_Exec_1.1 C.c_cohe_Exec_1.2 (O := []) .nil (by kernel_rfl)
def a14489 : Ans := ⟨n_cohe_Exec_1, [.i .i64 3, v262, v272], .i .i64 1⟩
theorem t14489 (C : VCode V) : VA V a14489 := VA_of (envOk C) C.c_cohe_Exec_1.1 C.c_cohe_Exec_1.2 (O := []) .nil (by kernel_rfl)
def a14492 : Ans := ⟨n_cohe_Exec_1, [.i .i64 17, v262, v272], .i .i64 1⟩
theorem t14492 (C : VCode V) : VA V a14492 := VA_of (envOk C) C.c_cohe_Exec_1.1 C.c_cohe_Exec_1.2 (O := [a14474]) (.cons (t14474 C) .nil) (by kernel_rfl)
def v273 : VV := .ag [.i .i64 1, .i .i64 10, .i .i64 2, .i .i64 0, .i .i64 0, .i .i64 3, .b false, .b false, .ls []]
def a14495 : Ans := ⟨n_cohe_Pair, [v57, v273, .i .i64 0, .i .i64 1], .b true⟩
theorem t14495 (C : VCode V) : VA V a14495 := VA_of (envOk C) C.c_cohe_Pair.1 C.c_cohe_Pair.2 (O := []) .nil (by kernel_rfl)
def a14497 : Ans := ⟨n_cohe_Exec_1, [.i .i64 18, v262, v272], .i .i64 2⟩
theorem t14497 (C : VCode V) : VA V a14497 := VA_of (envOk C) C.c_cohe_Exec_1.1 C.c_cohe_Exec_1.2 (O := []) .nil (by kernel_rfl)
def a14509 : Ans := ⟨n_exec_run_behind, [v270, .i .i64 0], .i .u64 262152⟩
theorem t14509 (C : VCode V) : VA V a14509 := VA_of (envOk C) C.c_exec_run_behind.1 C.c_exec_run_behind.2 (O := []) .nil (by kernel_rfl)
def a14525 : Ans := ⟨n_exec_run_behind, [v270, .i .i64 3], .i .u64 262144⟩
theorem t14525 (C : VCode V) : VA V a14525 := VA_of (envOk C) C.c_exec_run_behind.1 C.c_exec_run_behind.2 (O := []) .nil (by kernel_rfl)
def a14541 : Ans := ⟨n_slices_Index_sint_int, [v266, .i .i64 18], .i .i64 6⟩
theorem t14541 (C : VCode V) : VA V a14541 := VA_of (envOk C) C.c_slices_Index_sint_int.1 C.c_slices_Index_sint_int.2 (O := []) .nil (by kernel_rfl)
def v274 : VV := .ls [[.i .u64 262156], [.i .u64 0], [.i .u64 262152], [.i .u64 393216], [.i .u64 0], [.i .u64 0], [.i .u64 0], [.i .u64 0], [.i .u64 0], [.i .u64 0], [.i .u64 0], [.i .u64 0], [.i .u64 0], [.i .u64 0], [.i .u64 0], [.i .u64 0], [.i .u64 0], [.i .u64 262144], [.i .u64 0]]
def a14551 : Ans := ⟨n_rel_May, [v274], .b true⟩
theorem t14551 (C : VCode V) : VA V a14551 := VA_of (envOk C) C.c_rel_May.1 C.c_rel_May.2 (O := [a1959]) (.cons (t1959 C) .nil) (by kernel_rfl)
def a14568 : Ans := ⟨n_reach_graph_grown, [v274, .i .u64 0, .f n_reach_graph_ahead [] []], .i .u64 0⟩
theorem t14568 (C : VCode V) : VA V a14568 := VA_of (envOk C) C.c_reach_graph_grown.1 C.c_reach_graph_grown.2 (O := [a14551, a1959]) (.cons (t14551 C) (.cons (t1959 C) .nil)) (by kernel_rfl)
def v275 : VV := .ls [[.i .u64 393228], [.i .u64 0], [.i .u64 393224], [.i .u64 393216], [.i .u64 0], [.i .u64 0], [.i .u64 0], [.i .u64 0], [.i .u64 0], [.i .u64 0], [.i .u64 0], [.i .u64 0], [.i .u64 0], [.i .u64 0], [.i .u64 0], [.i .u64 0], [.i .u64 0], [.i .u64 262144], [.i .u64 0]]
def a14586 : Ans := ⟨n_reach_Plus, [v274], v275⟩
theorem t14586 (C : VCode V) : VA V a14586 := VA_of (envOk C) C.c_reach_Plus.1 C.c_reach_Plus.2 (O := [a14551, a14551, a1959, a14551, a1959, a14568, a14551, a1959, a14551, a1959, a14551, a1959, a14451, a14568, a14568, a14568, a14568, a14568, a14568, a14568, a14568, a14568, a14568, a14568, a14568, a14568, a14551, a1959, a14568]) (.cons (t14551 C) (.cons (t14551 C) (.cons (t1959 C) (.cons (t14551 C) (.cons (t1959 C) (.cons (t14568 C) (.cons (t14551 C) (.cons (t1959 C) (.cons (t14551 C) (.cons (t1959 C) (.cons (t14551 C) (.cons (t1959 C) (.cons (t14451 C) (.cons (t14568 C) (.cons (t14568 C) (.cons (t14568 C) (.cons (t14568 C) (.cons (t14568 C) (.cons (t14568 C) (.cons (t14568 C) (.cons (t14568 C) (.cons (t14568 C) (.cons (t14568 C) (.cons (t14568 C) (.cons (t14568 C) (.cons (t14568 C) (.cons (t14551 C) (.cons (t1959 C) (.cons (t14568 C) .nil))))))))))))))))))))))))))))) (by kernel_rfl)
def v276 : VV := .ls [[.i .u64 394254], [.i .u64 12], [.i .u64 393224], [.i .u64 393216], [.i .u64 0], [.i .u64 0], [.i .u64 0], [.i .u64 0], [.i .u64 0], [.i .u64 0], [.i .u64 393216], [.i .u64 0], [.i .u64 0], [.i .u64 0], [.i .u64 0], [.i .u64 0], [.i .u64 0], [.i .u64 262144], [.i .u64 0]]
def a14617 : Ans := ⟨n_rel_Or, [v267, v275], v276⟩
theorem t14617 (C : VCode V) : VA V a14617 := VA_of (envOk C) C.c_rel_Or.1 C.c_rel_Or.2 (O := [a14410, a1959]) (.cons (t14410 C) (.cons (t1959 C) .nil)) (by kernel_rfl)
def v277 : VV := .ls [[.i .u64 0], [.i .u64 1], [.i .u64 3], [.i .u64 7], [.i .u64 0], [.i .u64 0], [.i .u64 0], [.i .u64 0], [.i .u64 0], [.i .u64 0], [.i .u64 1], [.i .u64 0], [.i .u64 0], [.i .u64 0], [.i .u64 0], [.i .u64 0], [.i .u64 0], [.i .u64 1025], [.i .u64 132097]]
def a14619 : Ans := ⟨n_rel_Back, [v267], v277⟩
theorem t14619 (C : VCode V) : VA V a14619 := VA_of (envOk C) C.c_rel_Back.1 C.c_rel_Back.2 (O := [a14410, a14482]) (.cons (t14410 C) (.cons (t14482 C) .nil)) (by kernel_rfl)
def a14628 : Ans := ⟨n_exec_Good, [v256, v269], .b true⟩
theorem t14628 (C : VCode V) : VA V a14628 := VA_of (envOk C) C.c_exec_Good.1 C.c_exec_Good.2 (O := [a14468, a14462, a14468, a14462, a14482, a14487, a2148, a14489, a14299, a14492, a14495, a14497, a14487, a14489, a14487, a14489, a14307, a14492, a14497, a14492, a14497, a14477, a14509, a14509, a14525, a14474, a14525, a14541, a14586, a14617, a14619, a2383]) (.cons (t14468 C) (.cons (t14462 C) (.cons (t14468 C) (.cons (t14462 C) (.cons (t14482 C) (.cons (t14487 C) (.cons (t2148 C) (.cons (t14489 C) (.cons (t14299 C) (.cons (t14492 C) (.cons (t14495 C) (.cons (t14497 C) (.cons (t14487 C) (.cons (t14489 C) (.cons (t14487 C) (.cons (t14489 C) (.cons (t14307 C) (.cons (t14492 C) (.cons (t14497 C) (.cons (t14492 C) (.cons (t14497 C) (.cons (t14477 C) (.cons (t14509 C) (.cons (t14509 C) (.cons (t14525 C) (.cons (t14474 C) (.cons (t14525 C) (.cons (t14541 C) (.cons (t14586 C) (.cons (t14617 C) (.cons (t14619 C) (.cons (t2383 C) .nil)))))))))))))))))))))))))))))))) (by kernel_rfl)
def a14641 : Ans := ⟨n_witheref17_Where, [v266, .i .i64 18], .i .i64 6⟩
theorem t14641 (C : VCode V) : VA V a14641 := VA_of (envOk C) C.c_witheref17_Where.1 C.c_witheref17_Where.2 (O := []) .nil (by kernel_rfl)
def a14643 : Ans := ⟨n_witheref17_ExecForm, [v256, v269], .b true⟩
theorem t14643 (C : VCode V) : VA V a14643 := VA_of (envOk C) C.c_witheref17_ExecForm.1 C.c_witheref17_ExecForm.2 (O := [a14641]) (.cons (t14641 C) .nil) (by kernel_rfl)
end
end Go.AM
