/-
  Certificates: what calls answer, each carried out by the kernel.
-/
import Derived.Test.YtgenbmicpdkhlaaGreatDoorCeE
import Derived.KernelRfl
import Derived.Test.YtgenbmicpdkhlaaGreatDoorCe0
import Derived.Test.YtgenbmicpdkhlaaGreatDoorCe1
set_option linter.unusedVariables false
set_option linter.unusedSimpArgs false
set_option linter.unusedSectionVars false
set_option linter.unnecessarySimpa false
set_option maxRecDepth 1000000
set_option maxHeartbeats 4000000
namespace Go.AM
section
variable {V : VProg}
def v71 : VV := .ls [[.i .i64 4, .i .i64 0, .s ⟨⟨[97]⟩⟩, .s ⟨⟨[120]⟩⟩, .ls [[.i .i64 1, .i .i64 1, .s ⟨⟨[]⟩⟩, .ls []]], .ls [], .ls []]]
def a2401 : Ans := ⟨n_withelaw27_ExecAtomic_1, [.i .u8 1], v71⟩
theorem t2401 (C : VCode V) : VA V a2401 := VA_of (envOk C) C.c_withelaw27_ExecAtomic_1.1 C.c_withelaw27_ExecAtomic_1.2 (O := []) .nil (by kernel_rfl)
def a2403 : Ans := ⟨n_witheref9_expr, [.ag [.i .i64 1, .i .i64 1, .s ⟨⟨[]⟩⟩, .ls []], .i .i64 4, .ls []], .i .i64 0⟩
theorem t2403 (C : VCode V) : VA V a2403 := VA_of (envOk C) C.c_witheref9_expr.1 C.c_witheref9_expr.2 (O := []) .nil (by kernel_rfl)
def a2406 : Ans := ⟨n_witheref9_Regs, [v71], .ls [[.s ⟨⟨[97]⟩⟩]]⟩
theorem t2406 (C : VCode V) : VA V a2406 := VA_of (envOk C) C.c_witheref9_Regs.1 C.c_witheref9_Regs.2 (O := []) .nil (by kernel_rfl)
def a2408 : Ans := ⟨n_witheref9_Expr, [.ag [.i .i64 1, .i .i64 1, .s ⟨⟨[]⟩⟩, .ls []], .ls [[.s ⟨⟨[97]⟩⟩]], .ls [[.i .i64 0]], .i .i64 4], .tu [.i .i64 1, .b true]⟩
theorem t2408 (C : VCode V) : VA V a2408 := VA_of (envOk C) C.c_witheref9_Expr.1 C.c_witheref9_Expr.2 (O := []) .nil (by kernel_rfl)
def v72 : VV := .ls [[v33], [v71]]
def v73 : VV := .ag [.s ⟨⟨[97]⟩⟩, .i .i64 4, .ls [[.s ⟨⟨[120]⟩⟩, .i .i64 0]], v72, .i .i64 1, .i .i64 1, .i .i64 0, .s ⟨⟨[120]⟩⟩, .i .i64 0, .ls []]
def v74 : VV := .ls [[.i .i64 (-1), .i .i64 (-1), .i .i64 3, .i .i64 0, .i .i64 0, .i .i64 0, .b false, .b false, .ls []], [.i .i64 0, .i .i64 (-1), .i .i64 1, .i .i64 0, .i .i64 0, .i .i64 0, .b false, .b false, .ls []], [.i .i64 0, .i .i64 1, .i .i64 2, .i .i64 0, .i .i64 0, .i .i64 0, .b false, .b false, .ls []], [.i .i64 0, .i .i64 2, .i .i64 3, .i .i64 0, .i .i64 0, .i .i64 0, .b true, .b true, .ls [[.i .i64 0]]], [.i .i64 0, .i .i64 1, .i .i64 2, .i .i64 0, .i .i64 0, .i .i64 1, .b false, .b false, .ls []], [.i .i64 0, .i .i64 4, .i .i64 3, .i .i64 0, .i .i64 0, .i .i64 1, .b true, .b true, .ls [[.i .i64 1]]], [.i .i64 0, .i .i64 1, .i .i64 2, .i .i64 0, .i .i64 0, .i .i64 2, .b false, .b false, .ls []], [.i .i64 0, .i .i64 6, .i .i64 3, .i .i64 0, .i .i64 0, .i .i64 2, .b true, .b true, .ls [[.i .i64 2]]], [.i .i64 0, .i .i64 1, .i .i64 2, .i .i64 0, .i .i64 0, .i .i64 3, .b false, .b false, .ls []], [.i .i64 0, .i .i64 8, .i .i64 3, .i .i64 0, .i .i64 0, .i .i64 3, .b true, .b true, .ls [[.i .i64 3]]], [.i .i64 1, .i .i64 (-1), .i .i64 1, .i .i64 0, .i .i64 0, .i .i64 0, .b false, .b false, .ls []], [.i .i64 1, .i .i64 10, .i .i64 2, .i .i64 0, .i .i64 0, .i .i64 0, .b false, .b false, .ls []], [.i .i64 1, .i .i64 11, .i .i64 3, .i .i64 0, .i .i64 0, .i .i64 1, .b true, .b true, .ls [[.i .i64 0]]], [.i .i64 1, .i .i64 10, .i .i64 2, .i .i64 0, .i .i64 0, .i .i64 1, .b false, .b false, .ls []], [.i .i64 1, .i .i64 13, .i .i64 3, .i .i64 0, .i .i64 0, .i .i64 2, .b true, .b true, .ls [[.i .i64 1]]], [.i .i64 1, .i .i64 10, .i .i64 2, .i .i64 0, .i .i64 0, .i .i64 2, .b false, .b false, .ls []], [.i .i64 1, .i .i64 15, .i .i64 3, .i .i64 0, .i .i64 0, .i .i64 3, .b true, .b true, .ls [[.i .i64 2]]], [.i .i64 1, .i .i64 10, .i .i64 2, .i .i64 0, .i .i64 0, .i .i64 3, .b false, .b false, .ls []], [.i .i64 1, .i .i64 17, .i .i64 3, .i .i64 0, .i .i64 0, .i .i64 0, .b true, .b true, .ls [[.i .i64 3]]]]
def v75 : VV := .ag [.i .i64 4, .ls [[.s ⟨⟨[120]⟩⟩]], .ls [[.ls [[.s ⟨⟨[97]⟩⟩]]], [.ls [[.s ⟨⟨[97]⟩⟩]]]], v74]
def v76 : VV := .tu [v75, .b true]
def a2411 : Ans := ⟨n_withemade_Tree, [v73], v76⟩
theorem t2411 (C : VCode V) : VA V a2411 := VA_of (envOk C) C.c_withemade_Tree.1 C.c_withemade_Tree.2 (O := [a27, a9, a27, a1000, a27, a2403, a1002, a1005, a2406, a1009, a1009, a1009, a1009, a2408, a2408, a2408, a2408]) (.cons (t27 C) (.cons (t9 C) (.cons (t27 C) (.cons (t1000 C) (.cons (t27 C) (.cons (t2403 C) (.cons (t1002 C) (.cons (t1005 C) (.cons (t2406 C) (.cons (t1009 C) (.cons (t1009 C) (.cons (t1009 C) (.cons (t1009 C) (.cons (t2408 C) (.cons (t2408 C) (.cons (t2408 C) (.cons (t2408 C) .nil))))))))))))))))) (by kernel_rfl)
def a2487 : Ans := ⟨n_lts_May, [v75], .b true⟩
theorem t2487 (C : VCode V) : VA V a2487 := VA_of (envOk C) C.c_lts_May.1 C.c_lts_May.2 (O := []) .nil (by kernel_rfl)
def v77 : VV := .ag [.i .i64 4, .ls [[.s ⟨⟨[120]⟩⟩]], .ls [[.ls [[.s ⟨⟨[97]⟩⟩]]], [.ls [[.s ⟨⟨[97]⟩⟩]]]], v74, v41, v42]
def v78 : VV := .f n_tree_deep_before [v77] []
def a3211 : Ans := ⟨n_tree_deep_rows, [v77, v78], v45⟩
theorem t3211 (C : VCode V) : VA V a3211 := VA_of (envOk C) C.c_tree_deep_rows.1 C.c_tree_deep_rows.2 (O := []) .nil (by kernel_rfl)
def a3212 : Ans := ⟨n_tree_Po, [v75], v45⟩
theorem t3212 (C : VCode V) : VA V a3212 := VA_of (envOk C) C.c_tree_Po.1 C.c_tree_Po.2 (O := [a2487, a3211]) (.cons (t2487 C) (.cons (t3211 C) .nil)) (by kernel_rfl)
def a3224 : Ans := ⟨n_sync_Hb, [v75, v40, v49], v46⟩
theorem t3224 (C : VCode V) : VA V a3224 := VA_of (envOk C) C.c_sync_Hb.1 C.c_sync_Hb.2 (O := [a2487, a1095, a1097, a3212, a2025, a2033, a2071, a2101]) (.cons (t2487 C) (.cons (t1095 C) (.cons (t1097 C) (.cons (t3212 C) (.cons (t2025 C) (.cons (t2033 C) (.cons (t2071 C) (.cons (t2101 C) .nil)))))))) (by kernel_rfl)
def a3226 : Ans := ⟨n_cohe_Is, [v75, v50], .b true⟩
theorem t3226 (C : VCode V) : VA V a3226 := VA_of (envOk C) C.c_cohe_Is.1 C.c_cohe_Is.2 (O := [a3224, a2106]) (.cons (t3224 C) (.cons (t2106 C) .nil)) (by kernel_rfl)
def v79 : VV := .ag [.i .i64 4, .ls [[.s ⟨⟨[120]⟩⟩]], .ls [[.ls [[.s ⟨⟨[97]⟩⟩]]], [.ls [[.s ⟨⟨[97]⟩⟩]]]], v74, v40, v49, .ls [[.ls [[.i .i64 0], [.i .i64 3], [.i .i64 12]]]], v46]
def a3230 : Ans := ⟨n_exec_run_atomic, [v79], .b false⟩
theorem t3230 (C : VCode V) : VA V a3230 := VA_of (envOk C) C.c_exec_run_atomic.1 C.c_exec_run_atomic.2 (O := [a2114]) (.cons (t2114 C) .nil) (by kernel_rfl)
def a3231 : Ans := ⟨n_exec_Atomic, [v75, v50], .b false⟩
theorem t3231 (C : VCode V) : VA V a3231 := VA_of (envOk C) C.c_exec_Atomic.1 C.c_exec_Atomic.2 (O := [a3226, a3224, a3230]) (.cons (t3226 C) (.cons (t3224 C) (.cons (t3230 C) .nil))) (by kernel_rfl)
def a3233 : Ans := ⟨n_cohe_Is, [v75, v52], .b true⟩
theorem t3233 (C : VCode V) : VA V a3233 := VA_of (envOk C) C.c_cohe_Is.1 C.c_cohe_Is.2 (O := [a3224, a2119]) (.cons (t3224 C) (.cons (t2119 C) .nil)) (by kernel_rfl)
def v80 : VV := .ag [.i .i64 4, .ls [[.s ⟨⟨[120]⟩⟩]], .ls [[.ls [[.s ⟨⟨[97]⟩⟩]]], [.ls [[.s ⟨⟨[97]⟩⟩]]]], v74, v40, v49, .ls [[.ls [[.i .i64 0], [.i .i64 12], [.i .i64 3]]]], v46]
def a3236 : Ans := ⟨n_exec_run_atomic, [v80], .b false⟩
theorem t3236 (C : VCode V) : VA V a3236 := VA_of (envOk C) C.c_exec_run_atomic.1 C.c_exec_run_atomic.2 (O := []) .nil (by kernel_rfl)
def a3237 : Ans := ⟨n_exec_Atomic, [v75, v52], .b false⟩
theorem t3237 (C : VCode V) : VA V a3237 := VA_of (envOk C) C.c_exec_Atomic.1 C.c_exec_Atomic.2 (O := [a3233, a3224, a3236]) (.cons (t3233 C) (.cons (t3224 C) (.cons (t3236 C) .nil))) (by kernel_rfl)
def v81 : VV := .fp [.i .i64 4, .ls [[.s ⟨⟨[120]⟩⟩]], .ls [[.ls [[.s ⟨⟨[97]⟩⟩]]], [.ls [[.s ⟨⟨[97]⟩⟩]]]], v74] 0
def v82 : VV := .fp [.i .i64 4, .ls [[.s ⟨⟨[120]⟩⟩]], .ls [[.ls [[.s ⟨⟨[97]⟩⟩]]], [.ls [[.s ⟨⟨[97]⟩⟩]]]], v74, v40, v49, .ls [[.ls [[.i .i64 0], [.i .i64 3], [.i .i64 12]]]]] 0
def a3242 : Ans := ⟨n_cohe_Exec_1, [.i .i64 2, v81, v82], .i .i64 0⟩
theorem t3242 (C : VCode V) : VA V a3242 := VA_of (envOk C) C.c_cohe_Exec_1.1 C.c_cohe_Exec_1.2 (O := []) .nil (by kernel_rfl)
def a3244 : Ans := ⟨n_cohe_Exec_1, [.i .i64 3, v81, v82], .i .i64 1⟩
theorem t3244 (C : VCode V) : VA V a3244 := VA_of (envOk C) C.c_cohe_Exec_1.1 C.c_cohe_Exec_1.2 (O := []) .nil (by kernel_rfl)
def a3247 : Ans := ⟨n_cohe_Exec_1, [.i .i64 11, v81, v82], .i .i64 0⟩
theorem t3247 (C : VCode V) : VA V a3247 := VA_of (envOk C) C.c_cohe_Exec_1.1 C.c_cohe_Exec_1.2 (O := [a2114]) (.cons (t2114 C) .nil) (by kernel_rfl)
def a3249 : Ans := ⟨n_cohe_Exec_1, [.i .i64 12, v81, v82], .i .i64 2⟩
theorem t3249 (C : VCode V) : VA V a3249 := VA_of (envOk C) C.c_cohe_Exec_1.1 C.c_cohe_Exec_1.2 (O := []) .nil (by kernel_rfl)
def v83 : VV := .ag [.i .i64 1, .i .i64 11, .i .i64 3, .i .i64 0, .i .i64 0, .i .i64 1, .b true, .b true, .ls [[.i .i64 0]]]
def a3252 : Ans := ⟨n_cohe_Pair, [v57, v83, .i .i64 0, .i .i64 2], .b true⟩
theorem t3252 (C : VCode V) : VA V a3252 := VA_of (envOk C) C.c_cohe_Pair.1 C.c_cohe_Pair.2 (O := []) .nil (by kernel_rfl)
def a3255 : Ans := ⟨n_cohe_Pair, [v60, v83, .i .i64 0, .i .i64 2], .b true⟩
theorem t3255 (C : VCode V) : VA V a3255 := VA_of (envOk C) C.c_cohe_Pair.1 C.c_cohe_Pair.2 (O := []) .nil (by kernel_rfl)
def a3258 : Ans := ⟨n_exec_Good, [v75, v50], .b false⟩
theorem t3258 (C : VCode V) : VA V a3258 := VA_of (envOk C) C.c_exec_Good.1 C.c_exec_Good.2 (O := [a3226, a3224, a3226, a3224, a2140, a3242, a2148, a3244, a2153, a3247, a2159, a3249, a3252, a3242, a3244, a3242, a3244, a2168, a3247, a3249, a3247, a3249, a3255, a3230]) (.cons (t3226 C) (.cons (t3224 C) (.cons (t3226 C) (.cons (t3224 C) (.cons (t2140 C) (.cons (t3242 C) (.cons (t2148 C) (.cons (t3244 C) (.cons (t2153 C) (.cons (t3247 C) (.cons (t2159 C) (.cons (t3249 C) (.cons (t3252 C) (.cons (t3242 C) (.cons (t3244 C) (.cons (t3242 C) (.cons (t3244 C) (.cons (t2168 C) (.cons (t3247 C) (.cons (t3249 C) (.cons (t3247 C) (.cons (t3249 C) (.cons (t3255 C) (.cons (t3230 C) .nil)))))))))))))))))))))))) (by kernel_rfl)
def v84 : VV := .fp [.i .i64 4, .ls [[.s ⟨⟨[120]⟩⟩]], .ls [[.ls [[.s ⟨⟨[97]⟩⟩]]], [.ls [[.s ⟨⟨[97]⟩⟩]]]], v74, v40, v49, .ls [[.ls [[.i .i64 0], [.i .i64 12], [.i .i64 3]]]]] 0
def a3263 : Ans := ⟨n_cohe_Exec_1, [.i .i64 2, v81, v84], .i .i64 0⟩
theorem t3263 (C : VCode V) : VA V a3263 := VA_of (envOk C) C.c_cohe_Exec_1.1 C.c_cohe_Exec_1.2 (O := []) .nil (by kernel_rfl)
def a3265 : Ans := ⟨n_cohe_Exec_1, [.i .i64 3, v81, v84], .i .i64 2⟩
theorem t3265 (C : VCode V) : VA V a3265 := VA_of (envOk C) C.c_cohe_Exec_1.1 C.c_cohe_Exec_1.2 (O := []) .nil (by kernel_rfl)
def a3268 : Ans := ⟨n_cohe_Exec_1, [.i .i64 11, v81, v84], .i .i64 0⟩
theorem t3268 (C : VCode V) : VA V a3268 := VA_of (envOk C) C.c_cohe_Exec_1.1 C.c_cohe_Exec_1.2 (O := [a2114]) (.cons (t2114 C) .nil) (by kernel_rfl)
def a3270 : Ans := ⟨n_cohe_Exec_1, [.i .i64 12, v81, v84], .i .i64 1⟩
theorem t3270 (C : VCode V) : VA V a3270 := VA_of (envOk C) C.c_cohe_Exec_1.1 C.c_cohe_Exec_1.2 (O := []) .nil (by kernel_rfl)
def a3273 : Ans := ⟨n_cohe_Pair, [v57, v83, .i .i64 0, .i .i64 1], .b true⟩
theorem t3273 (C : VCode V) : VA V a3273 := VA_of (envOk C) C.c_cohe_Pair.1 C.c_cohe_Pair.2 (O := []) .nil (by kernel_rfl)
def a3276 : Ans := ⟨n_cohe_Pair, [v60, v83, .i .i64 0, .i .i64 1], .b true⟩
theorem t3276 (C : VCode V) : VA V a3276 := VA_of (envOk C) C.c_cohe_Pair.1 C.c_cohe_Pair.2 (O := []) .nil (by kernel_rfl)
def a3279 : Ans := ⟨n_exec_Good, [v75, v52], .b false⟩
theorem t3279 (C : VCode V) : VA V a3279 := VA_of (envOk C) C.c_exec_Good.1 C.c_exec_Good.2 (O := [a3233, a3224, a3233, a3224, a2140, a3263, a2148, a3265, a2185, a3268, a2159, a3270, a3273, a3263, a3265, a3263, a3265, a2197, a3268, a3270, a3268, a3270, a3276, a3236]) (.cons (t3233 C) (.cons (t3224 C) (.cons (t3233 C) (.cons (t3224 C) (.cons (t2140 C) (.cons (t3263 C) (.cons (t2148 C) (.cons (t3265 C) (.cons (t2185 C) (.cons (t3268 C) (.cons (t2159 C) (.cons (t3270 C) (.cons (t3273 C) (.cons (t3263 C) (.cons (t3265 C) (.cons (t3263 C) (.cons (t3265 C) (.cons (t2197 C) (.cons (t3268 C) (.cons (t3270 C) (.cons (t3268 C) (.cons (t3270 C) (.cons (t3276 C) (.cons (t3236 C) .nil)))))))))))))))))))))))) (by kernel_rfl)
def a3302 : Ans := ⟨n_sync_Hb, [v75, v40, v63], v46⟩
theorem t3302 (C : VCode V) : VA V a3302 := VA_of (envOk C) C.c_sync_Hb.1 C.c_sync_Hb.2 (O := [a2487, a1095, a1097, a3212, a2025, a2033, a2033, a2071, a2101]) (.cons (t2487 C) (.cons (t1095 C) (.cons (t1097 C) (.cons (t3212 C) (.cons (t2025 C) (.cons (t2033 C) (.cons (t2033 C) (.cons (t2071 C) (.cons (t2101 C) .nil))))))))) (by kernel_rfl)
def a3304 : Ans := ⟨n_cohe_Is, [v75, v64], .b true⟩
theorem t3304 (C : VCode V) : VA V a3304 := VA_of (envOk C) C.c_cohe_Is.1 C.c_cohe_Is.2 (O := [a3302, a2106]) (.cons (t3302 C) (.cons (t2106 C) .nil)) (by kernel_rfl)
def v85 : VV := .ag [.i .i64 4, .ls [[.s ⟨⟨[120]⟩⟩]], .ls [[.ls [[.s ⟨⟨[97]⟩⟩]]], [.ls [[.s ⟨⟨[97]⟩⟩]]]], v74, v40, v63, .ls [[.ls [[.i .i64 0], [.i .i64 3], [.i .i64 12]]]], v46]
def a3308 : Ans := ⟨n_exec_run_atomic, [v85], .b true⟩
theorem t3308 (C : VCode V) : VA V a3308 := VA_of (envOk C) C.c_exec_run_atomic.1 C.c_exec_run_atomic.2 (O := [a2114]) (.cons (t2114 C) .nil) (by kernel_rfl)
def a3309 : Ans := ⟨n_exec_Atomic, [v75, v64], .b true⟩
theorem t3309 (C : VCode V) : VA V a3309 := VA_of (envOk C) C.c_exec_Atomic.1 C.c_exec_Atomic.2 (O := [a3304, a3302, a3308]) (.cons (t3304 C) (.cons (t3302 C) (.cons (t3308 C) .nil))) (by kernel_rfl)
def v86 : VV := .fp [.i .i64 4, .ls [[.s ⟨⟨[120]⟩⟩]], .ls [[.ls [[.s ⟨⟨[97]⟩⟩]]], [.ls [[.s ⟨⟨[97]⟩⟩]]]], v74, v40, v63, .ls [[.ls [[.i .i64 0], [.i .i64 3], [.i .i64 12]]]]] 0
def a3314 : Ans := ⟨n_cohe_Exec_1, [.i .i64 2, v81, v86], .i .i64 0⟩
theorem t3314 (C : VCode V) : VA V a3314 := VA_of (envOk C) C.c_cohe_Exec_1.1 C.c_cohe_Exec_1.2 (O := []) .nil (by kernel_rfl)
def a3316 : Ans := ⟨n_cohe_Exec_1, [.i .i64 3, v81, v86], .i .i64 1⟩
theorem t3316 (C : VCode V) : VA V a3316 := VA_of (envOk C) C.c_cohe_Exec_1.1 C.c_cohe_Exec_1.2 (O := []) .nil (by kernel_rfl)
def a3319 : Ans := ⟨n_cohe_Exec_1, [.i .i64 11, v81, v86], .i .i64 1⟩
theorem t3319 (C : VCode V) : VA V a3319 := VA_of (envOk C) C.c_cohe_Exec_1.1 C.c_cohe_Exec_1.2 (O := [a2114]) (.cons (t2114 C) .nil) (by kernel_rfl)
def a3321 : Ans := ⟨n_cohe_Exec_1, [.i .i64 12, v81, v86], .i .i64 2⟩
theorem t3321 (C : VCode V) : VA V a3321 := VA_of (envOk C) C.c_cohe_Exec_1.1 C.c_cohe_Exec_1.2 (O := []) .nil (by kernel_rfl)
def a3327 : Ans := ⟨n_exec_run_behind, [v85, .i .i64 0], .i .u64 4104⟩
theorem t3327 (C : VCode V) : VA V a3327 := VA_of (envOk C) C.c_exec_run_behind.1 C.c_exec_run_behind.2 (O := []) .nil (by kernel_rfl)
def a3339 : Ans := ⟨n_exec_run_behind, [v85, .i .i64 3], .i .u64 4096⟩
theorem t3339 (C : VCode V) : VA V a3339 := VA_of (envOk C) C.c_exec_run_behind.1 C.c_exec_run_behind.2 (O := []) .nil (by kernel_rfl)
def a3365 : Ans := ⟨n_exec_Good, [v75, v64], .b true⟩
theorem t3365 (C : VCode V) : VA V a3365 := VA_of (envOk C) C.c_exec_Good.1 C.c_exec_Good.2 (O := [a3304, a3302, a3304, a3302, a2140, a3314, a2148, a3316, a2153, a3319, a2247, a3321, a3252, a3314, a3316, a3314, a3316, a2168, a3319, a3321, a3319, a3321, a3308, a3327, a3327, a3339, a2114, a3339, a2288, a2333, a2364, a2367, a2383]) (.cons (t3304 C) (.cons (t3302 C) (.cons (t3304 C) (.cons (t3302 C) (.cons (t2140 C) (.cons (t3314 C) (.cons (t2148 C) (.cons (t3316 C) (.cons (t2153 C) (.cons (t3319 C) (.cons (t2247 C) (.cons (t3321 C) (.cons (t3252 C) (.cons (t3314 C) (.cons (t3316 C) (.cons (t3314 C) (.cons (t3316 C) (.cons (t2168 C) (.cons (t3319 C) (.cons (t3321 C) (.cons (t3319 C) (.cons (t3321 C) (.cons (t3308 C) (.cons (t3327 C) (.cons (t3327 C) (.cons (t3339 C) (.cons (t2114 C) (.cons (t3339 C) (.cons (t2288 C) (.cons (t2333 C) (.cons (t2364 C) (.cons (t2367 C) (.cons (t2383 C) .nil))))))))))))))))))))))))))))))))) (by kernel_rfl)
def a3374 : Ans := ⟨n_witheref17_ExecForm, [v75, v64], .b true⟩
theorem t3374 (C : VCode V) : VA V a3374 := VA_of (envOk C) C.c_witheref17_ExecForm.1 C.c_witheref17_ExecForm.2 (O := [a2397]) (.cons (t2397 C) .nil) (by kernel_rfl)
end
end Go.AM
