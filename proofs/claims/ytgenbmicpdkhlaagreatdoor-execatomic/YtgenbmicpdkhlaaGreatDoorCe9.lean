/-
  Certificates: what calls answer, each carried out by the kernel.
-/
import Derived.Test.YtgenbmicpdkhlaaGreatDoorCeE
import Derived.KernelRfl
import Derived.Test.YtgenbmicpdkhlaaGreatDoorCe0
import Derived.Test.YtgenbmicpdkhlaaGreatDoorCe1
import Derived.Test.YtgenbmicpdkhlaaGreatDoorCe3
set_option linter.unusedVariables false
set_option linter.unusedSimpArgs false
set_option linter.unusedSectionVars false
set_option linter.unnecessarySimpa false
set_option maxRecDepth 1000000
set_option maxHeartbeats 4000000
namespace Go.AM
section
variable {V : VProg}
def v186 : VV := .ls [[v87], [v33]]
def v187 : VV := .ag [.s ⟨⟨[97]⟩⟩, .i .i64 4, .ls [[.s ⟨⟨[120]⟩⟩, .i .i64 0]], v186, .i .i64 1, .i .i64 1, .i .i64 0, .s ⟨⟨[120]⟩⟩, .i .i64 0, .ls []]
def v188 : VV := .ls [[.i .i64 (-1), .i .i64 (-1), .i .i64 3, .i .i64 0, .i .i64 0, .i .i64 0, .b false, .b false, .ls []], [.i .i64 0, .i .i64 (-1), .i .i64 1, .i .i64 0, .i .i64 0, .i .i64 0, .b false, .b false, .ls []], [.i .i64 0, .i .i64 1, .i .i64 2, .i .i64 0, .i .i64 0, .i .i64 0, .b false, .b false, .ls []], [.i .i64 0, .i .i64 2, .i .i64 3, .i .i64 0, .i .i64 0, .i .i64 2, .b true, .b true, .ls [[.i .i64 0]]], [.i .i64 0, .i .i64 1, .i .i64 2, .i .i64 0, .i .i64 0, .i .i64 1, .b false, .b false, .ls []], [.i .i64 0, .i .i64 4, .i .i64 3, .i .i64 0, .i .i64 0, .i .i64 3, .b true, .b true, .ls [[.i .i64 1]]], [.i .i64 0, .i .i64 1, .i .i64 2, .i .i64 0, .i .i64 0, .i .i64 2, .b false, .b false, .ls []], [.i .i64 0, .i .i64 6, .i .i64 3, .i .i64 0, .i .i64 0, .i .i64 0, .b true, .b true, .ls [[.i .i64 2]]], [.i .i64 0, .i .i64 1, .i .i64 2, .i .i64 0, .i .i64 0, .i .i64 3, .b false, .b false, .ls []], [.i .i64 0, .i .i64 8, .i .i64 3, .i .i64 0, .i .i64 0, .i .i64 1, .b true, .b true, .ls [[.i .i64 3]]], [.i .i64 1, .i .i64 (-1), .i .i64 1, .i .i64 0, .i .i64 0, .i .i64 0, .b false, .b false, .ls []], [.i .i64 1, .i .i64 10, .i .i64 2, .i .i64 0, .i .i64 0, .i .i64 0, .b false, .b false, .ls []], [.i .i64 1, .i .i64 11, .i .i64 3, .i .i64 0, .i .i64 0, .i .i64 0, .b true, .b true, .ls [[.i .i64 0]]], [.i .i64 1, .i .i64 10, .i .i64 2, .i .i64 0, .i .i64 0, .i .i64 1, .b false, .b false, .ls []], [.i .i64 1, .i .i64 13, .i .i64 3, .i .i64 0, .i .i64 0, .i .i64 1, .b true, .b true, .ls [[.i .i64 1]]], [.i .i64 1, .i .i64 10, .i .i64 2, .i .i64 0, .i .i64 0, .i .i64 2, .b false, .b false, .ls []], [.i .i64 1, .i .i64 15, .i .i64 3, .i .i64 0, .i .i64 0, .i .i64 2, .b true, .b true, .ls [[.i .i64 2]]], [.i .i64 1, .i .i64 10, .i .i64 2, .i .i64 0, .i .i64 0, .i .i64 3, .b false, .b false, .ls []], [.i .i64 1, .i .i64 17, .i .i64 3, .i .i64 0, .i .i64 0, .i .i64 3, .b true, .b true, .ls [[.i .i64 3]]]]
def v189 : VV := .ag [.i .i64 4, .ls [[.s ⟨⟨[120]⟩⟩]], .ls [[.ls [[.s ⟨⟨[97]⟩⟩]]], [.ls [[.s ⟨⟨[97]⟩⟩]]]], v188]
def v190 : VV := .tu [v189, .b true]
def a9398 : Ans := ⟨n_withemade_Tree, [v187], v190⟩
theorem t9398 (C : VCode V) : VA V a9398 := VA_of (envOk C) C.c_withemade_Tree.1 C.c_withemade_Tree.2 (O := [a27, a9, a27, a3379, a27, a1000, a1002, a3382, a1005, a3385, a3385, a3385, a3385, a1009, a1009, a1009, a1009]) (.cons (t27 C) (.cons (t9 C) (.cons (t27 C) (.cons (t3379 C) (.cons (t27 C) (.cons (t1000 C) (.cons (t1002 C) (.cons (t3382 C) (.cons (t1005 C) (.cons (t3385 C) (.cons (t3385 C) (.cons (t3385 C) (.cons (t3385 C) (.cons (t1009 C) (.cons (t1009 C) (.cons (t1009 C) (.cons (t1009 C) .nil))))))))))))))))) (by kernel_rfl)
def a9474 : Ans := ⟨n_lts_May, [v189], .b true⟩
theorem t9474 (C : VCode V) : VA V a9474 := VA_of (envOk C) C.c_lts_May.1 C.c_lts_May.2 (O := []) .nil (by kernel_rfl)
def v191 : VV := .ag [.i .i64 4, .ls [[.s ⟨⟨[120]⟩⟩]], .ls [[.ls [[.s ⟨⟨[97]⟩⟩]]], [.ls [[.s ⟨⟨[97]⟩⟩]]]], v188, v41, v42]
def v192 : VV := .f n_tree_deep_before [v191] []
def a10198 : Ans := ⟨n_tree_deep_rows, [v191, v192], v45⟩
theorem t10198 (C : VCode V) : VA V a10198 := VA_of (envOk C) C.c_tree_deep_rows.1 C.c_tree_deep_rows.2 (O := []) .nil (by kernel_rfl)
def a10199 : Ans := ⟨n_tree_Po, [v189], v45⟩
theorem t10199 (C : VCode V) : VA V a10199 := VA_of (envOk C) C.c_tree_Po.1 C.c_tree_Po.2 (O := [a9474, a10198]) (.cons (t9474 C) (.cons (t10198 C) .nil)) (by kernel_rfl)
def a10211 : Ans := ⟨n_sync_Hb, [v189, v40, v49], v46⟩
theorem t10211 (C : VCode V) : VA V a10211 := VA_of (envOk C) C.c_sync_Hb.1 C.c_sync_Hb.2 (O := [a9474, a1095, a1097, a10199, a2025, a2033, a2071, a2101]) (.cons (t9474 C) (.cons (t1095 C) (.cons (t1097 C) (.cons (t10199 C) (.cons (t2025 C) (.cons (t2033 C) (.cons (t2071 C) (.cons (t2101 C) .nil)))))))) (by kernel_rfl)
def a10213 : Ans := ⟨n_cohe_Is, [v189, v50], .b true⟩
theorem t10213 (C : VCode V) : VA V a10213 := VA_of (envOk C) C.c_cohe_Is.1 C.c_cohe_Is.2 (O := [a10211, a2106]) (.cons (t10211 C) (.cons (t2106 C) .nil)) (by kernel_rfl)
def v193 : VV := .ag [.i .i64 4, .ls [[.s ⟨⟨[120]⟩⟩]], .ls [[.ls [[.s ⟨⟨[97]⟩⟩]]], [.ls [[.s ⟨⟨[97]⟩⟩]]]], v188, v40, v49, .ls [[.ls [[.i .i64 0], [.i .i64 3], [.i .i64 12]]]], v46]
def a10217 : Ans := ⟨n_exec_run_atomic, [v193], .b false⟩
theorem t10217 (C : VCode V) : VA V a10217 := VA_of (envOk C) C.c_exec_run_atomic.1 C.c_exec_run_atomic.2 (O := [a2114]) (.cons (t2114 C) .nil) (by kernel_rfl)
def a10218 : Ans := ⟨n_exec_Atomic, [v189, v50], .b false⟩
theorem t10218 (C : VCode V) : VA V a10218 := VA_of (envOk C) C.c_exec_Atomic.1 C.c_exec_Atomic.2 (O := [a10213, a10211, a10217]) (.cons (t10213 C) (.cons (t10211 C) (.cons (t10217 C) .nil))) (by kernel_rfl)
def a10220 : Ans := ⟨n_cohe_Is, [v189, v52], .b true⟩
theorem t10220 (C : VCode V) : VA V a10220 := VA_of (envOk C) C.c_cohe_Is.1 C.c_cohe_Is.2 (O := [a10211, a2119]) (.cons (t10211 C) (.cons (t2119 C) .nil)) (by kernel_rfl)
def v194 : VV := .ag [.i .i64 4, .ls [[.s ⟨⟨[120]⟩⟩]], .ls [[.ls [[.s ⟨⟨[97]⟩⟩]]], [.ls [[.s ⟨⟨[97]⟩⟩]]]], v188, v40, v49, .ls [[.ls [[.i .i64 0], [.i .i64 12], [.i .i64 3]]]], v46]
def a10223 : Ans := ⟨n_exec_run_atomic, [v194], .b false⟩
theorem t10223 (C : VCode V) : VA V a10223 := VA_of (envOk C) C.c_exec_run_atomic.1 C.c_exec_run_atomic.2 (O := []) .nil (by kernel_rfl)
def a10224 : Ans := ⟨n_exec_Atomic, [v189, v52], .b false⟩
theorem t10224 (C : VCode V) : VA V a10224 := VA_of (envOk C) C.c_exec_Atomic.1 C.c_exec_Atomic.2 (O := [a10220, a10211, a10223]) (.cons (t10220 C) (.cons (t10211 C) (.cons (t10223 C) .nil))) (by kernel_rfl)
def v195 : VV := .fp [.i .i64 4, .ls [[.s ⟨⟨[120]⟩⟩]], .ls [[.ls [[.s ⟨⟨[97]⟩⟩]]], [.ls [[.s ⟨⟨[97]⟩⟩]]]], v188] 0
def v196 : VV := .fp [.i .i64 4, .ls [[.s ⟨⟨[120]⟩⟩]], .ls [[.ls [[.s ⟨⟨[97]⟩⟩]]], [.ls [[.s ⟨⟨[97]⟩⟩]]]], v188, v40, v49, .ls [[.ls [[.i .i64 0], [.i .i64 3], [.i .i64 12]]]]] 0
def a10229 : Ans := ⟨n_cohe_Exec_1, [.i .i64 2, v195, v196], .i .i64 0⟩
theorem t10229 (C : VCode V) : VA V a10229 := VA_of (envOk C) C.c_cohe_Exec_1.1 C.c_cohe_Exec_1.2 (O := []) .nil (by kernel_rfl)
def a10231 : Ans := ⟨n_cohe_Exec_1, [.i .i64 3, v195, v196], .i .i64 1⟩
theorem t10231 (C : VCode V) : VA V a10231 := VA_of (envOk C) C.c_cohe_Exec_1.1 C.c_cohe_Exec_1.2 (O := []) .nil (by kernel_rfl)
def v197 : VV := .ag [.i .i64 0, .i .i64 2, .i .i64 3, .i .i64 0, .i .i64 0, .i .i64 2, .b true, .b true, .ls [[.i .i64 0]]]
def a10234 : Ans := ⟨n_cohe_Pair, [v57, v197, .i .i64 0, .i .i64 1], .b true⟩
theorem t10234 (C : VCode V) : VA V a10234 := VA_of (envOk C) C.c_cohe_Pair.1 C.c_cohe_Pair.2 (O := []) .nil (by kernel_rfl)
def a10237 : Ans := ⟨n_cohe_Exec_1, [.i .i64 11, v195, v196], .i .i64 0⟩
theorem t10237 (C : VCode V) : VA V a10237 := VA_of (envOk C) C.c_cohe_Exec_1.1 C.c_cohe_Exec_1.2 (O := [a2114]) (.cons (t2114 C) .nil) (by kernel_rfl)
def a10239 : Ans := ⟨n_cohe_Exec_1, [.i .i64 12, v195, v196], .i .i64 2⟩
theorem t10239 (C : VCode V) : VA V a10239 := VA_of (envOk C) C.c_cohe_Exec_1.1 C.c_cohe_Exec_1.2 (O := []) .nil (by kernel_rfl)
def a10242 : Ans := ⟨n_cohe_Pair, [v58, v197, .i .i64 0, .i .i64 1], .b true⟩
theorem t10242 (C : VCode V) : VA V a10242 := VA_of (envOk C) C.c_cohe_Pair.1 C.c_cohe_Pair.2 (O := []) .nil (by kernel_rfl)
def a10245 : Ans := ⟨n_exec_Good, [v189, v50], .b false⟩
theorem t10245 (C : VCode V) : VA V a10245 := VA_of (envOk C) C.c_exec_Good.1 C.c_exec_Good.2 (O := [a10213, a10211, a10213, a10211, a2140, a10229, a2148, a10231, a10234, a10237, a2159, a10239, a2164, a10229, a10231, a10229, a10231, a10242, a10237, a10239, a10237, a10239, a2172, a10217]) (.cons (t10213 C) (.cons (t10211 C) (.cons (t10213 C) (.cons (t10211 C) (.cons (t2140 C) (.cons (t10229 C) (.cons (t2148 C) (.cons (t10231 C) (.cons (t10234 C) (.cons (t10237 C) (.cons (t2159 C) (.cons (t10239 C) (.cons (t2164 C) (.cons (t10229 C) (.cons (t10231 C) (.cons (t10229 C) (.cons (t10231 C) (.cons (t10242 C) (.cons (t10237 C) (.cons (t10239 C) (.cons (t10237 C) (.cons (t10239 C) (.cons (t2172 C) (.cons (t10217 C) .nil)))))))))))))))))))))))) (by kernel_rfl)
def v198 : VV := .fp [.i .i64 4, .ls [[.s ⟨⟨[120]⟩⟩]], .ls [[.ls [[.s ⟨⟨[97]⟩⟩]]], [.ls [[.s ⟨⟨[97]⟩⟩]]]], v188, v40, v49, .ls [[.ls [[.i .i64 0], [.i .i64 12], [.i .i64 3]]]]] 0
def a10250 : Ans := ⟨n_cohe_Exec_1, [.i .i64 2, v195, v198], .i .i64 0⟩
theorem t10250 (C : VCode V) : VA V a10250 := VA_of (envOk C) C.c_cohe_Exec_1.1 C.c_cohe_Exec_1.2 (O := []) .nil (by kernel_rfl)
def a10252 : Ans := ⟨n_cohe_Exec_1, [.i .i64 3, v195, v198], .i .i64 2⟩
theorem t10252 (C : VCode V) : VA V a10252 := VA_of (envOk C) C.c_cohe_Exec_1.1 C.c_cohe_Exec_1.2 (O := []) .nil (by kernel_rfl)
def a10255 : Ans := ⟨n_cohe_Pair, [v57, v197, .i .i64 0, .i .i64 2], .b true⟩
theorem t10255 (C : VCode V) : VA V a10255 := VA_of (envOk C) C.c_cohe_Pair.1 C.c_cohe_Pair.2 (O := []) .nil (by kernel_rfl)
def a10258 : Ans := ⟨n_cohe_Exec_1, [.i .i64 11, v195, v198], .i .i64 0⟩
theorem t10258 (C : VCode V) : VA V a10258 := VA_of (envOk C) C.c_cohe_Exec_1.1 C.c_cohe_Exec_1.2 (O := [a2114]) (.cons (t2114 C) .nil) (by kernel_rfl)
def a10260 : Ans := ⟨n_cohe_Exec_1, [.i .i64 12, v195, v198], .i .i64 1⟩
theorem t10260 (C : VCode V) : VA V a10260 := VA_of (envOk C) C.c_cohe_Exec_1.1 C.c_cohe_Exec_1.2 (O := []) .nil (by kernel_rfl)
def a10263 : Ans := ⟨n_cohe_Pair, [v58, v197, .i .i64 0, .i .i64 2], .b true⟩
theorem t10263 (C : VCode V) : VA V a10263 := VA_of (envOk C) C.c_cohe_Pair.1 C.c_cohe_Pair.2 (O := []) .nil (by kernel_rfl)
def a10266 : Ans := ⟨n_exec_Good, [v189, v52], .b false⟩
theorem t10266 (C : VCode V) : VA V a10266 := VA_of (envOk C) C.c_exec_Good.1 C.c_exec_Good.2 (O := [a10220, a10211, a10220, a10211, a2140, a10250, a2148, a10252, a10255, a10258, a2159, a10260, a2194, a10250, a10252, a10250, a10252, a10263, a10258, a10260, a10258, a10260, a2200, a10223]) (.cons (t10220 C) (.cons (t10211 C) (.cons (t10220 C) (.cons (t10211 C) (.cons (t2140 C) (.cons (t10250 C) (.cons (t2148 C) (.cons (t10252 C) (.cons (t10255 C) (.cons (t10258 C) (.cons (t2159 C) (.cons (t10260 C) (.cons (t2194 C) (.cons (t10250 C) (.cons (t10252 C) (.cons (t10250 C) (.cons (t10252 C) (.cons (t10263 C) (.cons (t10258 C) (.cons (t10260 C) (.cons (t10258 C) (.cons (t10260 C) (.cons (t2200 C) (.cons (t10223 C) .nil)))))))))))))))))))))))) (by kernel_rfl)
def v199 : VV := .ls [[.i .i64 0], [.i .i64 1], [.i .i64 2], [.i .i64 3], [.i .i64 10], [.i .i64 15], [.i .i64 16]]
def a10267 : Ans := ⟨n_bits_Of, [v199], .i .u64 99343⟩
theorem t10267 (C : VCode V) : VA V a10267 := VA_of (envOk C) C.c_bits_Of.1 C.c_bits_Of.2 (O := []) .nil (by kernel_rfl)
def v200 : VV := .ls [[.i .u64 99342], [.i .u64 12], [.i .u64 8], [.i .u64 0], [.i .u64 0], [.i .u64 0], [.i .u64 0], [.i .u64 0], [.i .u64 0], [.i .u64 0], [.i .u64 98304], [.i .u64 0], [.i .u64 0], [.i .u64 0], [.i .u64 0], [.i .u64 65536], [.i .u64 0], [.i .u64 0], [.i .u64 0]]
def a10315 : Ans := ⟨n_rel_Keep, [v45, .i .u64 99343], v200⟩
theorem t10315 (C : VCode V) : VA V a10315 := VA_of (envOk C) C.c_rel_Keep.1 C.c_rel_Keep.2 (O := [a1986]) (.cons (t1986 C) .nil) (by kernel_rfl)
def a10323 : Ans := ⟨n_bits_List, [.i .u64 99343], v199⟩
theorem t10323 (C : VCode V) : VA V a10323 := VA_of (envOk C) C.c_bits_List.1 C.c_bits_List.2 (O := []) .nil (by kernel_rfl)
def a10345 : Ans := ⟨n_rel_May, [v200], .b true⟩
theorem t10345 (C : VCode V) : VA V a10345 := VA_of (envOk C) C.c_rel_May.1 C.c_rel_May.2 (O := [a1959]) (.cons (t1959 C) .nil) (by kernel_rfl)
def a10368 : Ans := ⟨n_rel_Or, [v200, v47], v200⟩
theorem t10368 (C : VCode V) : VA V a10368 := VA_of (envOk C) C.c_rel_Or.1 C.c_rel_Or.2 (O := [a10345, a2048]) (.cons (t10345 C) (.cons (t2048 C) .nil)) (by kernel_rfl)
def v201 : VV := .ls [[.i .i64 1], [.i .i64 2], [.i .i64 3], [.i .i64 10], [.i .i64 15], [.i .i64 16]]
def a10369 : Ans := ⟨n_bits_List, [.i .u64 99342], v201⟩
theorem t10369 (C : VCode V) : VA V a10369 := VA_of (envOk C) C.c_bits_List.1 C.c_bits_List.2 (O := []) .nil (by kernel_rfl)
def a10385 : Ans := ⟨n_reach_graph_grown, [v200, .i .u64 0, .f n_reach_graph_ahead [] []], .i .u64 0⟩
theorem t10385 (C : VCode V) : VA V a10385 := VA_of (envOk C) C.c_reach_graph_grown.1 C.c_reach_graph_grown.2 (O := [a10345, a1959]) (.cons (t10345 C) (.cons (t1959 C) .nil)) (by kernel_rfl)
def a10386 : Ans := ⟨n_bits_List, [.i .u64 98304], .ls [[.i .i64 15], [.i .i64 16]]⟩
theorem t10386 (C : VCode V) : VA V a10386 := VA_of (envOk C) C.c_bits_List.1 C.c_bits_List.2 (O := []) .nil (by kernel_rfl)
def a10396 : Ans := ⟨n_reach_Plus, [v200], v200⟩
theorem t10396 (C : VCode V) : VA V a10396 := VA_of (envOk C) C.c_reach_Plus.1 C.c_reach_Plus.2 (O := [a10345, a10345, a1959, a10369, a10345, a1959, a2078, a10345, a1959, a10385, a10385, a10385, a10385, a10385, a10385, a10385, a10345, a1959, a10386, a10385, a10385, a10385, a10385, a10345, a1959, a10385, a10385, a10385]) (.cons (t10345 C) (.cons (t10345 C) (.cons (t1959 C) (.cons (t10369 C) (.cons (t10345 C) (.cons (t1959 C) (.cons (t2078 C) (.cons (t10345 C) (.cons (t1959 C) (.cons (t10385 C) (.cons (t10385 C) (.cons (t10385 C) (.cons (t10385 C) (.cons (t10385 C) (.cons (t10385 C) (.cons (t10385 C) (.cons (t10345 C) (.cons (t1959 C) (.cons (t10386 C) (.cons (t10385 C) (.cons (t10385 C) (.cons (t10385 C) (.cons (t10385 C) (.cons (t10345 C) (.cons (t1959 C) (.cons (t10385 C) (.cons (t10385 C) (.cons (t10385 C) .nil)))))))))))))))))))))))))))) (by kernel_rfl)
def a10397 : Ans := ⟨n_sync_Hb, [v189, v199, v63], v200⟩
theorem t10397 (C : VCode V) : VA V a10397 := VA_of (envOk C) C.c_sync_Hb.1 C.c_sync_Hb.2 (O := [a9474, a10267, a1097, a10199, a10315, a10323, a10323, a10368, a10396]) (.cons (t9474 C) (.cons (t10267 C) (.cons (t1097 C) (.cons (t10199 C) (.cons (t10315 C) (.cons (t10323 C) (.cons (t10323 C) (.cons (t10368 C) (.cons (t10396 C) .nil))))))))) (by kernel_rfl)
def a10401 : Ans := ⟨n_bits_Of, [.ls [[.i .i64 0], [.i .i64 3], [.i .i64 16]]], .i .u64 65545⟩
theorem t10401 (C : VCode V) : VA V a10401 := VA_of (envOk C) C.c_bits_Of.1 C.c_bits_Of.2 (O := []) .nil (by kernel_rfl)
def v202 : VV := .ag [v199, v63, .ls [[.ls [[.i .i64 0], [.i .i64 3], [.i .i64 16]]]]]
def a10403 : Ans := ⟨n_cohe_Is, [v189, v202], .b true⟩
theorem t10403 (C : VCode V) : VA V a10403 := VA_of (envOk C) C.c_cohe_Is.1 C.c_cohe_Is.2 (O := [a10397, a10401]) (.cons (t10397 C) (.cons (t10401 C) .nil)) (by kernel_rfl)
def a10409 : Ans := ⟨n_slices_Index_sint_int, [v199, .i .i64 15], .i .i64 5⟩
theorem t10409 (C : VCode V) : VA V a10409 := VA_of (envOk C) C.c_slices_Index_sint_int.1 C.c_slices_Index_sint_int.2 (O := []) .nil (by kernel_rfl)
def v203 : VV := .ag [.i .i64 4, .ls [[.s ⟨⟨[120]⟩⟩]], .ls [[.ls [[.s ⟨⟨[97]⟩⟩]]], [.ls [[.s ⟨⟨[97]⟩⟩]]]], v188, v199, v63, .ls [[.ls [[.i .i64 0], [.i .i64 3], [.i .i64 16]]]], v200]
def a10412 : Ans := ⟨n_exec_run_atomic, [v203], .b true⟩
theorem t10412 (C : VCode V) : VA V a10412 := VA_of (envOk C) C.c_exec_run_atomic.1 C.c_exec_run_atomic.2 (O := [a10409]) (.cons (t10409 C) .nil) (by kernel_rfl)
def a10413 : Ans := ⟨n_exec_Atomic, [v189, v202], .b true⟩
theorem t10413 (C : VCode V) : VA V a10413 := VA_of (envOk C) C.c_exec_Atomic.1 C.c_exec_Atomic.2 (O := [a10403, a10397, a10412]) (.cons (t10403 C) (.cons (t10397 C) (.cons (t10412 C) .nil))) (by kernel_rfl)
def v204 : VV := .ls [[.i .i64 0, .i .i64 1], [.i .i64 0, .i .i64 2], [.i .i64 0, .i .i64 3], [.i .i64 0, .i .i64 10], [.i .i64 0, .i .i64 15], [.i .i64 0, .i .i64 16], [.i .i64 1, .i .i64 2], [.i .i64 1, .i .i64 3], [.i .i64 2, .i .i64 3], [.i .i64 10, .i .i64 15], [.i .i64 10, .i .i64 16], [.i .i64 15, .i .i64 16]]
def a10417 : Ans := ⟨n_rel_Pairs, [v200], v204⟩
theorem t10417 (C : VCode V) : VA V a10417 := VA_of (envOk C) C.c_rel_Pairs.1 C.c_rel_Pairs.2 (O := [a10345, a10369, a2078, a10386]) (.cons (t10345 C) (.cons (t10369 C) (.cons (t2078 C) (.cons (t10386 C) .nil)))) (by kernel_rfl)
def v205 : VV := .fp [.i .i64 4, .ls [[.s ⟨⟨[120]⟩⟩]], .ls [[.ls [[.s ⟨⟨[97]⟩⟩]]], [.ls [[.s ⟨⟨[97]⟩⟩]]]], v188, v199, v63, .ls [[.ls [[.i .i64 0], [.i .i64 3], [.i .i64 16]]]]] 0
def a10422 : Ans := ⟨n_cohe_Exec_1, [.i .i64 2, v195, v205], .i .i64 0⟩
theorem t10422 (C : VCode V) : VA V a10422 := VA_of (envOk C) C.c_cohe_Exec_1.1 C.c_cohe_Exec_1.2 (O := []) .nil (by kernel_rfl)
def a10424 : Ans := ⟨n_cohe_Exec_1, [.i .i64 3, v195, v205], .i .i64 1⟩
theorem t10424 (C : VCode V) : VA V a10424 := VA_of (envOk C) C.c_cohe_Exec_1.1 C.c_cohe_Exec_1.2 (O := []) .nil (by kernel_rfl)
def a10427 : Ans := ⟨n_cohe_Exec_1, [.i .i64 15, v195, v205], .i .i64 1⟩
theorem t10427 (C : VCode V) : VA V a10427 := VA_of (envOk C) C.c_cohe_Exec_1.1 C.c_cohe_Exec_1.2 (O := [a10409]) (.cons (t10409 C) .nil) (by kernel_rfl)
def v206 : VV := .ag [.i .i64 1, .i .i64 10, .i .i64 2, .i .i64 0, .i .i64 0, .i .i64 2, .b false, .b false, .ls []]
def a10430 : Ans := ⟨n_cohe_Pair, [v57, v206, .i .i64 0, .i .i64 1], .b true⟩
theorem t10430 (C : VCode V) : VA V a10430 := VA_of (envOk C) C.c_cohe_Pair.1 C.c_cohe_Pair.2 (O := []) .nil (by kernel_rfl)
def a10432 : Ans := ⟨n_cohe_Exec_1, [.i .i64 16, v195, v205], .i .i64 2⟩
theorem t10432 (C : VCode V) : VA V a10432 := VA_of (envOk C) C.c_cohe_Exec_1.1 C.c_cohe_Exec_1.2 (O := []) .nil (by kernel_rfl)
def a10444 : Ans := ⟨n_exec_run_behind, [v203, .i .i64 0], .i .u64 65544⟩
theorem t10444 (C : VCode V) : VA V a10444 := VA_of (envOk C) C.c_exec_run_behind.1 C.c_exec_run_behind.2 (O := []) .nil (by kernel_rfl)
def a10460 : Ans := ⟨n_exec_run_behind, [v203, .i .i64 3], .i .u64 65536⟩
theorem t10460 (C : VCode V) : VA V a10460 := VA_of (envOk C) C.c_exec_run_behind.1 C.c_exec_run_behind.2 (O := []) .nil (by kernel_rfl)
def a10476 : Ans := ⟨n_slices_Index_sint_int, [v199, .i .i64 16], .i .i64 6⟩
theorem t10476 (C : VCode V) : VA V a10476 := VA_of (envOk C) C.c_slices_Index_sint_int.1 C.c_slices_Index_sint_int.2 (O := []) .nil (by kernel_rfl)
def v207 : VV := .ls [[.i .u64 65548], [.i .u64 0], [.i .u64 65544], [.i .u64 98304], [.i .u64 0], [.i .u64 0], [.i .u64 0], [.i .u64 0], [.i .u64 0], [.i .u64 0], [.i .u64 0], [.i .u64 0], [.i .u64 0], [.i .u64 0], [.i .u64 0], [.i .u64 65536], [.i .u64 0], [.i .u64 0], [.i .u64 0]]
def a10486 : Ans := ⟨n_rel_May, [v207], .b true⟩
theorem t10486 (C : VCode V) : VA V a10486 := VA_of (envOk C) C.c_rel_May.1 C.c_rel_May.2 (O := [a1959]) (.cons (t1959 C) .nil) (by kernel_rfl)
def a10503 : Ans := ⟨n_reach_graph_grown, [v207, .i .u64 0, .f n_reach_graph_ahead [] []], .i .u64 0⟩
theorem t10503 (C : VCode V) : VA V a10503 := VA_of (envOk C) C.c_reach_graph_grown.1 C.c_reach_graph_grown.2 (O := [a10486, a1959]) (.cons (t10486 C) (.cons (t1959 C) .nil)) (by kernel_rfl)
def v208 : VV := .ls [[.i .u64 98316], [.i .u64 0], [.i .u64 98312], [.i .u64 98304], [.i .u64 0], [.i .u64 0], [.i .u64 0], [.i .u64 0], [.i .u64 0], [.i .u64 0], [.i .u64 0], [.i .u64 0], [.i .u64 0], [.i .u64 0], [.i .u64 0], [.i .u64 65536], [.i .u64 0], [.i .u64 0], [.i .u64 0]]
def a10521 : Ans := ⟨n_reach_Plus, [v207], v208⟩
theorem t10521 (C : VCode V) : VA V a10521 := VA_of (envOk C) C.c_reach_Plus.1 C.c_reach_Plus.2 (O := [a10486, a10486, a1959, a10486, a1959, a10503, a10486, a1959, a10486, a1959, a10486, a1959, a10386, a10503, a10503, a10503, a10503, a10503, a10503, a10503, a10503, a10503, a10503, a10503, a10486, a1959, a10503, a10503, a10503]) (.cons (t10486 C) (.cons (t10486 C) (.cons (t1959 C) (.cons (t10486 C) (.cons (t1959 C) (.cons (t10503 C) (.cons (t10486 C) (.cons (t1959 C) (.cons (t10486 C) (.cons (t1959 C) (.cons (t10486 C) (.cons (t1959 C) (.cons (t10386 C) (.cons (t10503 C) (.cons (t10503 C) (.cons (t10503 C) (.cons (t10503 C) (.cons (t10503 C) (.cons (t10503 C) (.cons (t10503 C) (.cons (t10503 C) (.cons (t10503 C) (.cons (t10503 C) (.cons (t10503 C) (.cons (t10486 C) (.cons (t1959 C) (.cons (t10503 C) (.cons (t10503 C) (.cons (t10503 C) .nil))))))))))))))))))))))))))))) (by kernel_rfl)
def v209 : VV := .ls [[.i .u64 99342], [.i .u64 12], [.i .u64 98312], [.i .u64 98304], [.i .u64 0], [.i .u64 0], [.i .u64 0], [.i .u64 0], [.i .u64 0], [.i .u64 0], [.i .u64 98304], [.i .u64 0], [.i .u64 0], [.i .u64 0], [.i .u64 0], [.i .u64 65536], [.i .u64 0], [.i .u64 0], [.i .u64 0]]
def a10552 : Ans := ⟨n_rel_Or, [v200, v208], v209⟩
theorem t10552 (C : VCode V) : VA V a10552 := VA_of (envOk C) C.c_rel_Or.1 C.c_rel_Or.2 (O := [a10345, a1959]) (.cons (t10345 C) (.cons (t1959 C) .nil)) (by kernel_rfl)
def v210 : VV := .ls [[.i .u64 0], [.i .u64 1], [.i .u64 3], [.i .u64 7], [.i .u64 0], [.i .u64 0], [.i .u64 0], [.i .u64 0], [.i .u64 0], [.i .u64 0], [.i .u64 1], [.i .u64 0], [.i .u64 0], [.i .u64 0], [.i .u64 0], [.i .u64 1025], [.i .u64 33793], [.i .u64 0], [.i .u64 0]]
def a10554 : Ans := ⟨n_rel_Back, [v200], v210⟩
theorem t10554 (C : VCode V) : VA V a10554 := VA_of (envOk C) C.c_rel_Back.1 C.c_rel_Back.2 (O := [a10345, a10417]) (.cons (t10345 C) (.cons (t10417 C) .nil)) (by kernel_rfl)
def a10563 : Ans := ⟨n_exec_Good, [v189, v202], .b true⟩
theorem t10563 (C : VCode V) : VA V a10563 := VA_of (envOk C) C.c_exec_Good.1 C.c_exec_Good.2 (O := [a10403, a10397, a10403, a10397, a10417, a10422, a2148, a10424, a10234, a10427, a10430, a10432, a10422, a10424, a10422, a10424, a10242, a10427, a10432, a10427, a10432, a10412, a10444, a10444, a10460, a10409, a10460, a10476, a10521, a10552, a10554, a2383]) (.cons (t10403 C) (.cons (t10397 C) (.cons (t10403 C) (.cons (t10397 C) (.cons (t10417 C) (.cons (t10422 C) (.cons (t2148 C) (.cons (t10424 C) (.cons (t10234 C) (.cons (t10427 C) (.cons (t10430 C) (.cons (t10432 C) (.cons (t10422 C) (.cons (t10424 C) (.cons (t10422 C) (.cons (t10424 C) (.cons (t10242 C) (.cons (t10427 C) (.cons (t10432 C) (.cons (t10427 C) (.cons (t10432 C) (.cons (t10412 C) (.cons (t10444 C) (.cons (t10444 C) (.cons (t10460 C) (.cons (t10409 C) (.cons (t10460 C) (.cons (t10476 C) (.cons (t10521 C) (.cons (t10552 C) (.cons (t10554 C) (.cons (t2383 C) .nil)))))))))))))))))))))))))))))))) (by kernel_rfl)
def a10576 : Ans := ⟨n_witheref17_Where, [v199, .i .i64 16], .i .i64 6⟩
theorem t10576 (C : VCode V) : VA V a10576 := VA_of (envOk C) C.c_witheref17_Where.1 C.c_witheref17_Where.2 (O := []) .nil (by kernel_rfl)
def a10578 : Ans := ⟨n_witheref17_ExecForm, [v189, v202], .b true⟩
theorem t10578 (C : VCode V) : VA V a10578 := VA_of (envOk C) C.c_witheref17_ExecForm.1 C.c_witheref17_ExecForm.2 (O := [a10576]) (.cons (t10576 C) .nil) (by kernel_rfl)
end
end Go.AM
