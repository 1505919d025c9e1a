/-
  Certificates: what calls answer, each carried out by the kernel.
-/
import Derived.Test.YtgenbmicpdkhlaaGreatDoorCeE
import Derived.KernelRfl
import Derived.Test.YtgenbmicpdkhlaaGreatDoorCe0
import Derived.Test.YtgenbmicpdkhlaaGreatDoorCe1
set_option linter.unusedVariables false
set_option linter.unusedSimpArgs false
set_option linter.unusedSectionVars false
set_option linter.unnecessarySimpa false
set_option maxRecDepth 1000000
set_option maxHeartbeats 4000000
namespace Go.AM
section
variable {V : VProg}
def v87 : VV := .ls [[.i .i64 4, .i .i64 0, .s ⟨⟨[97]⟩⟩, .s ⟨⟨[120]⟩⟩, .ls [[.i .i64 1, .i .i64 2, .s ⟨⟨[]⟩⟩, .ls []]], .ls [], .ls []]]
def a3376 : Ans := ⟨n_withelaw27_ExecAtomic_1, [.i .u8 2], v87⟩
theorem t3376 (C : VCode V) : VA V a3376 := VA_of (envOk C) C.c_withelaw27_ExecAtomic_1.1 C.c_withelaw27_ExecAtomic_1.2 (O := []) .nil (by kernel_rfl)
def a3379 : Ans := ⟨n_witheref9_expr, [.ag [.i .i64 1, .i .i64 2, .s ⟨⟨[]⟩⟩, .ls []], .i .i64 4, .ls []], .i .i64 0⟩
theorem t3379 (C : VCode V) : VA V a3379 := VA_of (envOk C) C.c_witheref9_expr.1 C.c_witheref9_expr.2 (O := []) .nil (by kernel_rfl)
def a3382 : Ans := ⟨n_witheref9_Regs, [v87], .ls [[.s ⟨⟨[97]⟩⟩]]⟩
theorem t3382 (C : VCode V) : VA V a3382 := VA_of (envOk C) C.c_witheref9_Regs.1 C.c_witheref9_Regs.2 (O := []) .nil (by kernel_rfl)
def a3385 : Ans := ⟨n_witheref9_Expr, [.ag [.i .i64 1, .i .i64 2, .s ⟨⟨[]⟩⟩, .ls []], .ls [[.s ⟨⟨[97]⟩⟩]], .ls [[.i .i64 0]], .i .i64 4], .tu [.i .i64 2, .b true]⟩
theorem t3385 (C : VCode V) : VA V a3385 := VA_of (envOk C) C.c_witheref9_Expr.1 C.c_witheref9_Expr.2 (O := []) .nil (by kernel_rfl)
def v88 : VV := .ls [[v33], [v87]]
def v89 : VV := .ag [.s ⟨⟨[97]⟩⟩, .i .i64 4, .ls [[.s ⟨⟨[120]⟩⟩, .i .i64 0]], v88, .i .i64 1, .i .i64 1, .i .i64 0, .s ⟨⟨[120]⟩⟩, .i .i64 0, .ls []]
def v90 : VV := .ls [[.i .i64 (-1), .i .i64 (-1), .i .i64 3, .i .i64 0, .i .i64 0, .i .i64 0, .b false, .b false, .ls []], [.i .i64 0, .i .i64 (-1), .i .i64 1, .i .i64 0, .i .i64 0, .i .i64 0, .b false, .b false, .ls []], [.i .i64 0, .i .i64 1, .i .i64 2, .i .i64 0, .i .i64 0, .i .i64 0, .b false, .b false, .ls []], [.i .i64 0, .i .i64 2, .i .i64 3, .i .i64 0, .i .i64 0, .i .i64 0, .b true, .b true, .ls [[.i .i64 0]]], [.i .i64 0, .i .i64 1, .i .i64 2, .i .i64 0, .i .i64 0, .i .i64 1, .b false, .b false, .ls []], [.i .i64 0, .i .i64 4, .i .i64 3, .i .i64 0, .i .i64 0, .i .i64 1, .b true, .b true, .ls [[.i .i64 1]]], [.i .i64 0, .i .i64 1, .i .i64 2, .i .i64 0, .i .i64 0, .i .i64 2, .b false, .b false, .ls []], [.i .i64 0, .i .i64 6, .i .i64 3, .i .i64 0, .i .i64 0, .i .i64 2, .b true, .b true, .ls [[.i .i64 2]]], [.i .i64 0, .i .i64 1, .i .i64 2, .i .i64 0, .i .i64 0, .i .i64 3, .b false, .b false, .ls []], [.i .i64 0, .i .i64 8, .i .i64 3, .i .i64 0, .i .i64 0, .i .i64 3, .b true, .b true, .ls [[.i .i64 3]]], [.i .i64 1, .i .i64 (-1), .i .i64 1, .i .i64 0, .i .i64 0, .i .i64 0, .b false, .b false, .ls []], [.i .i64 1, .i .i64 10, .i .i64 2, .i .i64 0, .i .i64 0, .i .i64 0, .b false, .b false, .ls []], [.i .i64 1, .i .i64 11, .i .i64 3, .i .i64 0, .i .i64 0, .i .i64 2, .b true, .b true, .ls [[.i .i64 0]]], [.i .i64 1, .i .i64 10, .i .i64 2, .i .i64 0, .i .i64 0, .i .i64 1, .b false, .b false, .ls []], [.i .i64 1, .i .i64 13, .i .i64 3, .i .i64 0, .i .i64 0, .i .i64 3, .b true, .b true, .ls [[.i .i64 1]]], [.i .i64 1, .i .i64 10, .i .i64 2, .i .i64 0, .i .i64 0, .i .i64 2, .b false, .b false, .ls []], [.i .i64 1, .i .i64 15, .i .i64 3, .i .i64 0, .i .i64 0, .i .i64 0, .b true, .b true, .ls [[.i .i64 2]]], [.i .i64 1, .i .i64 10, .i .i64 2, .i .i64 0, .i .i64 0, .i .i64 3, .b false, .b false, .ls []], [.i .i64 1, .i .i64 17, .i .i64 3, .i .i64 0, .i .i64 0, .i .i64 1, .b true, .b true, .ls [[.i .i64 3]]]]
def v91 : VV := .ag [.i .i64 4, .ls [[.s ⟨⟨[120]⟩⟩]], .ls [[.ls [[.s ⟨⟨[97]⟩⟩]]], [.ls [[.s ⟨⟨[97]⟩⟩]]]], v90]
def v92 : VV := .tu [v91, .b true]
def a3388 : Ans := ⟨n_withemade_Tree, [v89], v92⟩
theorem t3388 (C : VCode V) : VA V a3388 := VA_of (envOk C) C.c_withemade_Tree.1 C.c_withemade_Tree.2 (O := [a27, a9, a27, a1000, a27, a3379, a1002, a1005, a3382, a1009, a1009, a1009, a1009, a3385, a3385, a3385, a3385]) (.cons (t27 C) (.cons (t9 C) (.cons (t27 C) (.cons (t1000 C) (.cons (t27 C) (.cons (t3379 C) (.cons (t1002 C) (.cons (t1005 C) (.cons (t3382 C) (.cons (t1009 C) (.cons (t1009 C) (.cons (t1009 C) (.cons (t1009 C) (.cons (t3385 C) (.cons (t3385 C) (.cons (t3385 C) (.cons (t3385 C) .nil))))))))))))))))) (by kernel_rfl)
def a3464 : Ans := ⟨n_lts_May, [v91], .b true⟩
theorem t3464 (C : VCode V) : VA V a3464 := VA_of (envOk C) C.c_lts_May.1 C.c_lts_May.2 (O := []) .nil (by kernel_rfl)
def v93 : VV := .ag [.i .i64 4, .ls [[.s ⟨⟨[120]⟩⟩]], .ls [[.ls [[.s ⟨⟨[97]⟩⟩]]], [.ls [[.s ⟨⟨[97]⟩⟩]]]], v90, v41, v42]
def v94 : VV := .f n_tree_deep_before [v93] []
def a4188 : Ans := ⟨n_tree_deep_rows, [v93, v94], v45⟩
theorem t4188 (C : VCode V) : VA V a4188 := VA_of (envOk C) C.c_tree_deep_rows.1 C.c_tree_deep_rows.2 (O := []) .nil (by kernel_rfl)
def a4189 : Ans := ⟨n_tree_Po, [v91], v45⟩
theorem t4189 (C : VCode V) : VA V a4189 := VA_of (envOk C) C.c_tree_Po.1 C.c_tree_Po.2 (O := [a3464, a4188]) (.cons (t3464 C) (.cons (t4188 C) .nil)) (by kernel_rfl)
def a4201 : Ans := ⟨n_sync_Hb, [v91, v40, v49], v46⟩
theorem t4201 (C : VCode V) : VA V a4201 := VA_of (envOk C) C.c_sync_Hb.1 C.c_sync_Hb.2 (O := [a3464, a1095, a1097, a4189, a2025, a2033, a2071, a2101]) (.cons (t3464 C) (.cons (t1095 C) (.cons (t1097 C) (.cons (t4189 C) (.cons (t2025 C) (.cons (t2033 C) (.cons (t2071 C) (.cons (t2101 C) .nil)))))))) (by kernel_rfl)
def a4203 : Ans := ⟨n_cohe_Is, [v91, v50], .b true⟩
theorem t4203 (C : VCode V) : VA V a4203 := VA_of (envOk C) C.c_cohe_Is.1 C.c_cohe_Is.2 (O := [a4201, a2106]) (.cons (t4201 C) (.cons (t2106 C) .nil)) (by kernel_rfl)
def v95 : VV := .ag [.i .i64 4, .ls [[.s ⟨⟨[120]⟩⟩]], .ls [[.ls [[.s ⟨⟨[97]⟩⟩]]], [.ls [[.s ⟨⟨[97]⟩⟩]]]], v90, v40, v49, .ls [[.ls [[.i .i64 0], [.i .i64 3], [.i .i64 12]]]], v46]
def a4207 : Ans := ⟨n_exec_run_atomic, [v95], .b false⟩
theorem t4207 (C : VCode V) : VA V a4207 := VA_of (envOk C) C.c_exec_run_atomic.1 C.c_exec_run_atomic.2 (O := [a2114]) (.cons (t2114 C) .nil) (by kernel_rfl)
def a4208 : Ans := ⟨n_exec_Atomic, [v91, v50], .b false⟩
theorem t4208 (C : VCode V) : VA V a4208 := VA_of (envOk C) C.c_exec_Atomic.1 C.c_exec_Atomic.2 (O := [a4203, a4201, a4207]) (.cons (t4203 C) (.cons (t4201 C) (.cons (t4207 C) .nil))) (by kernel_rfl)
def a4210 : Ans := ⟨n_cohe_Is, [v91, v52], .b true⟩
theorem t4210 (C : VCode V) : VA V a4210 := VA_of (envOk C) C.c_cohe_Is.1 C.c_cohe_Is.2 (O := [a4201, a2119]) (.cons (t4201 C) (.cons (t2119 C) .nil)) (by kernel_rfl)
def v96 : VV := .ag [.i .i64 4, .ls [[.s ⟨⟨[120]⟩⟩]], .ls [[.ls [[.s ⟨⟨[97]⟩⟩]]], [.ls [[.s ⟨⟨[97]⟩⟩]]]], v90, v40, v49, .ls [[.ls [[.i .i64 0], [.i .i64 12], [.i .i64 3]]]], v46]
def a4213 : Ans := ⟨n_exec_run_atomic, [v96], .b false⟩
theorem t4213 (C : VCode V) : VA V a4213 := VA_of (envOk C) C.c_exec_run_atomic.1 C.c_exec_run_atomic.2 (O := []) .nil (by kernel_rfl)
def a4214 : Ans := ⟨n_exec_Atomic, [v91, v52], .b false⟩
theorem t4214 (C : VCode V) : VA V a4214 := VA_of (envOk C) C.c_exec_Atomic.1 C.c_exec_Atomic.2 (O := [a4210, a4201, a4213]) (.cons (t4210 C) (.cons (t4201 C) (.cons (t4213 C) .nil))) (by kernel_rfl)
def v97 : VV := .fp [.i .i64 4, .ls [[.s ⟨⟨[120]⟩⟩]], .ls [[.ls [[.s ⟨⟨[97]⟩⟩]]], [.ls [[.s ⟨⟨[97]⟩⟩]]]], v90] 0
def v98 : VV := .fp [.i .i64 4, .ls [[.s ⟨⟨[120]⟩⟩]], .ls [[.ls [[.s ⟨⟨[97]⟩⟩]]], [.ls [[.s ⟨⟨[97]⟩⟩]]]], v90, v40, v49, .ls [[.ls [[.i .i64 0], [.i .i64 3], [.i .i64 12]]]]] 0
def a4219 : Ans := ⟨n_cohe_Exec_1, [.i .i64 2, v97, v98], .i .i64 0⟩
theorem t4219 (C : VCode V) : VA V a4219 := VA_of (envOk C) C.c_cohe_Exec_1.1 C.c_cohe_Exec_1.2 (O := []) .nil (by kernel_rfl)
def a4221 : Ans := ⟨n_cohe_Exec_1, [.i .i64 3, v97, v98], .i .i64 1⟩
theorem t4221 (C : VCode V) : VA V a4221 := VA_of (envOk C) C.c_cohe_Exec_1.1 C.c_cohe_Exec_1.2 (O := []) .nil (by kernel_rfl)
def a4224 : Ans := ⟨n_cohe_Exec_1, [.i .i64 11, v97, v98], .i .i64 0⟩
theorem t4224 (C : VCode V) : VA V a4224 := VA_of (envOk C) C.c_cohe_Exec_1.1 C.c_cohe_Exec_1.2 (O := [a2114]) (.cons (t2114 C) .nil) (by kernel_rfl)
def a4226 : Ans := ⟨n_cohe_Exec_1, [.i .i64 12, v97, v98], .i .i64 2⟩
theorem t4226 (C : VCode V) : VA V a4226 := VA_of (envOk C) C.c_cohe_Exec_1.1 C.c_cohe_Exec_1.2 (O := []) .nil (by kernel_rfl)
def v99 : VV := .ag [.i .i64 1, .i .i64 11, .i .i64 3, .i .i64 0, .i .i64 0, .i .i64 2, .b true, .b true, .ls [[.i .i64 0]]]
def a4229 : Ans := ⟨n_cohe_Pair, [v57, v99, .i .i64 0, .i .i64 2], .b true⟩
theorem t4229 (C : VCode V) : VA V a4229 := VA_of (envOk C) C.c_cohe_Pair.1 C.c_cohe_Pair.2 (O := []) .nil (by kernel_rfl)
def a4232 : Ans := ⟨n_cohe_Pair, [v60, v99, .i .i64 0, .i .i64 2], .b true⟩
theorem t4232 (C : VCode V) : VA V a4232 := VA_of (envOk C) C.c_cohe_Pair.1 C.c_cohe_Pair.2 (O := []) .nil (by kernel_rfl)
def a4235 : Ans := ⟨n_exec_Good, [v91, v50], .b false⟩
theorem t4235 (C : VCode V) : VA V a4235 := VA_of (envOk C) C.c_exec_Good.1 C.c_exec_Good.2 (O := [a4203, a4201, a4203, a4201, a2140, a4219, a2148, a4221, a2153, a4224, a2159, a4226, a4229, a4219, a4221, a4219, a4221, a2168, a4224, a4226, a4224, a4226, a4232, a4207]) (.cons (t4203 C) (.cons (t4201 C) (.cons (t4203 C) (.cons (t4201 C) (.cons (t2140 C) (.cons (t4219 C) (.cons (t2148 C) (.cons (t4221 C) (.cons (t2153 C) (.cons (t4224 C) (.cons (t2159 C) (.cons (t4226 C) (.cons (t4229 C) (.cons (t4219 C) (.cons (t4221 C) (.cons (t4219 C) (.cons (t4221 C) (.cons (t2168 C) (.cons (t4224 C) (.cons (t4226 C) (.cons (t4224 C) (.cons (t4226 C) (.cons (t4232 C) (.cons (t4207 C) .nil)))))))))))))))))))))))) (by kernel_rfl)
def v100 : VV := .fp [.i .i64 4, .ls [[.s ⟨⟨[120]⟩⟩]], .ls [[.ls [[.s ⟨⟨[97]⟩⟩]]], [.ls [[.s ⟨⟨[97]⟩⟩]]]], v90, v40, v49, .ls [[.ls [[.i .i64 0], [.i .i64 12], [.i .i64 3]]]]] 0
def a4240 : Ans := ⟨n_cohe_Exec_1, [.i .i64 2, v97, v100], .i .i64 0⟩
theorem t4240 (C : VCode V) : VA V a4240 := VA_of (envOk C) C.c_cohe_Exec_1.1 C.c_cohe_Exec_1.2 (O := []) .nil (by kernel_rfl)
def a4242 : Ans := ⟨n_cohe_Exec_1, [.i .i64 3, v97, v100], .i .i64 2⟩
theorem t4242 (C : VCode V) : VA V a4242 := VA_of (envOk C) C.c_cohe_Exec_1.1 C.c_cohe_Exec_1.2 (O := []) .nil (by kernel_rfl)
def a4245 : Ans := ⟨n_cohe_Exec_1, [.i .i64 11, v97, v100], .i .i64 0⟩
theorem t4245 (C : VCode V) : VA V a4245 := VA_of (envOk C) C.c_cohe_Exec_1.1 C.c_cohe_Exec_1.2 (O := [a2114]) (.cons (t2114 C) .nil) (by kernel_rfl)
def a4247 : Ans := ⟨n_cohe_Exec_1, [.i .i64 12, v97, v100], .i .i64 1⟩
theorem t4247 (C : VCode V) : VA V a4247 := VA_of (envOk C) C.c_cohe_Exec_1.1 C.c_cohe_Exec_1.2 (O := []) .nil (by kernel_rfl)
def a4250 : Ans := ⟨n_cohe_Pair, [v57, v99, .i .i64 0, .i .i64 1], .b true⟩
theorem t4250 (C : VCode V) : VA V a4250 := VA_of (envOk C) C.c_cohe_Pair.1 C.c_cohe_Pair.2 (O := []) .nil (by kernel_rfl)
def a4253 : Ans := ⟨n_cohe_Pair, [v60, v99, .i .i64 0, .i .i64 1], .b true⟩
theorem t4253 (C : VCode V) : VA V a4253 := VA_of (envOk C) C.c_cohe_Pair.1 C.c_cohe_Pair.2 (O := []) .nil (by kernel_rfl)
def a4256 : Ans := ⟨n_exec_Good, [v91, v52], .b false⟩
theorem t4256 (C : VCode V) : VA V a4256 := VA_of (envOk C) C.c_exec_Good.1 C.c_exec_Good.2 (O := [a4210, a4201, a4210, a4201, a2140, a4240, a2148, a4242, a2185, a4245, a2159, a4247, a4250, a4240, a4242, a4240, a4242, a2197, a4245, a4247, a4245, a4247, a4253, a4213]) (.cons (t4210 C) (.cons (t4201 C) (.cons (t4210 C) (.cons (t4201 C) (.cons (t2140 C) (.cons (t4240 C) (.cons (t2148 C) (.cons (t4242 C) (.cons (t2185 C) (.cons (t4245 C) (.cons (t2159 C) (.cons (t4247 C) (.cons (t4250 C) (.cons (t4240 C) (.cons (t4242 C) (.cons (t4240 C) (.cons (t4242 C) (.cons (t2197 C) (.cons (t4245 C) (.cons (t4247 C) (.cons (t4245 C) (.cons (t4247 C) (.cons (t4253 C) (.cons (t4213 C) .nil)))))))))))))))))))))))) (by kernel_rfl)
def a4279 : Ans := ⟨n_sync_Hb, [v91, v40, v63], v46⟩
theorem t4279 (C : VCode V) : VA V a4279 := VA_of (envOk C) C.c_sync_Hb.1 C.c_sync_Hb.2 (O := [a3464, a1095, a1097, a4189, a2025, a2033, a2033, a2071, a2101]) (.cons (t3464 C) (.cons (t1095 C) (.cons (t1097 C) (.cons (t4189 C) (.cons (t2025 C) (.cons (t2033 C) (.cons (t2033 C) (.cons (t2071 C) (.cons (t2101 C) .nil))))))))) (by kernel_rfl)
def a4281 : Ans := ⟨n_cohe_Is, [v91, v64], .b true⟩
theorem t4281 (C : VCode V) : VA V a4281 := VA_of (envOk C) C.c_cohe_Is.1 C.c_cohe_Is.2 (O := [a4279, a2106]) (.cons (t4279 C) (.cons (t2106 C) .nil)) (by kernel_rfl)
def v101 : VV := .ag [.i .i64 4, .ls [[.s ⟨⟨[120]⟩⟩]], .ls [[.ls [[.s ⟨⟨[97]⟩⟩]]], [.ls [[.s ⟨⟨[97]⟩⟩]]]], v90, v40, v63, .ls [[.ls [[.i .i64 0], [.i .i64 3], [.i .i64 12]]]], v46]
def a4285 : Ans := ⟨n_exec_run_atomic, [v101], .b true⟩
theorem t4285 (C : VCode V) : VA V a4285 := VA_of (envOk C) C.c_exec_run_atomic.1 C.c_exec_run_atomic.2 (O := [a2114]) (.cons (t2114 C) .nil) (by kernel_rfl)
def a4286 : Ans := ⟨n_exec_Atomic, [v91, v64], .b true⟩
theorem t4286 (C : VCode V) : VA V a4286 := VA_of (envOk C) C.c_exec_Atomic.1 C.c_exec_Atomic.2 (O := [a4281, a4279, a4285]) (.cons (t4281 C) (.cons (t4279 C) (.cons (t4285 C) .nil))) (by kernel_rfl)
def v102 : VV := .fp [.i .i64 4, .ls [[.s ⟨⟨[120]⟩⟩]], .ls [[.ls [[.s ⟨⟨[97]⟩⟩]]], [.ls [[.s ⟨⟨[97]⟩⟩]]]], v90, v40, v63, .ls [[.ls [[.i .i64 0], [.i .i64 3], [.i .i64 12]]]]] 0
def a4291 : Ans := ⟨n_cohe_Exec_1, [.i .i64 2, v97, v102], .i .i64 0⟩
theorem t4291 (C : VCode V) : VA V a4291 := VA_of (envOk C) C.c_cohe_Exec_1.1 C.c_cohe_Exec_1.2 (O := []) .nil (by kernel_rfl)
def a4293 : Ans := ⟨n_cohe_Exec_1, [.i .i64 3, v97, v102], .i .i64 1⟩
theorem t4293 (C : VCode V) : VA V a4293 := VA_of (envOk C) C.c_cohe_Exec_1.1 C.c_cohe_Exec_1.2 (O := []) .nil (by kernel_rfl)
def a4296 : Ans := ⟨n_cohe_Exec_1, [.i .i64 11, v97, v102], .i .i64 1⟩
theorem t4296 (C : VCode V) : VA V a4296 := VA_of (envOk C) C.c_cohe_Exec_1.1 C.c_cohe_Exec_1.2 (O := [a2114]) (.cons (t2114 C) .nil) (by kernel_rfl)
def a4298 : Ans := ⟨n_cohe_Exec_1, [.i .i64 12, v97, v102], .i .i64 2⟩
theorem t4298 (C : VCode V) : VA V a4298 := VA_of (envOk C) C.c_cohe_Exec_1.1 C.c_cohe_Exec_1.2 (O := []) .nil (by kernel_rfl)
def a4304 : Ans := ⟨n_exec_run_behind, [v101, .i .i64 0], .i .u64 4104⟩
theorem t4304 (C : VCode V) : VA V a4304 := VA_of (envOk C) C.c_exec_run_behind.1 C.c_exec_run_behind.2 (O := []) .nil (by kernel_rfl)
def a4316 : Ans := ⟨n_exec_run_behind, [v101, .i .i64 3], .i .u64 4096⟩
theorem t4316 (C : VCode V) : VA V a4316 := VA_of (envOk C) C.c_exec_run_behind.1 C.c_exec_run_behind.2 (O := []) .nil (by kernel_rfl)
def a4342 : Ans := ⟨n_exec_Good, [v91, v64], .b true⟩
theorem t4342 (C : VCode V) : VA V a4342 := VA_of (envOk C) C.c_exec_Good.1 C.c_exec_Good.2 (O := [a4281, a4279, a4281, a4279, a2140, a4291, a2148, a4293, a2153, a4296, a2247, a4298, a4229, a4291, a4293, a4291, a4293, a2168, a4296, a4298, a4296, a4298, a4285, a4304, a4304, a4316, a2114, a4316, a2288, a2333, a2364, a2367, a2383]) (.cons (t4281 C) (.cons (t4279 C) (.cons (t4281 C) (.cons (t4279 C) (.cons (t2140 C) (.cons (t4291 C) (.cons (t2148 C) (.cons (t4293 C) (.cons (t2153 C) (.cons (t4296 C) (.cons (t2247 C) (.cons (t4298 C) (.cons (t4229 C) (.cons (t4291 C) (.cons (t4293 C) (.cons (t4291 C) (.cons (t4293 C) (.cons (t2168 C) (.cons (t4296 C) (.cons (t4298 C) (.cons (t4296 C) (.cons (t4298 C) (.cons (t4285 C) (.cons (t4304 C) (.cons (t4304 C) (.cons (t4316 C) (.cons (t2114 C) (.cons (t4316 C) (.cons (t2288 C) (.cons (t2333 C) (.cons (t2364 C) (.cons (t2367 C) (.cons (t2383 C) .nil))))))))))))))))))))))))))))))))) (by kernel_rfl)
def a4351 : Ans := ⟨n_witheref17_ExecForm, [v91, v64], .b true⟩
theorem t4351 (C : VCode V) : VA V a4351 := VA_of (envOk C) C.c_witheref17_ExecForm.1 C.c_witheref17_ExecForm.2 (O := [a2397]) (.cons (t2397 C) .nil) (by kernel_rfl)
end
end Go.AM
