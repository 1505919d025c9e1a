/-
  Certificates: what calls answer, each carried out by the kernel.
-/
import Derived.Test.YtgenbmicpdkhlaaGreatDoorCeE
import Derived.KernelRfl
import Derived.Test.YtgenbmicpdkhlaaGreatDoorCe0
import Derived.Test.YtgenbmicpdkhlaaGreatDoorCe1
set_option linter.unusedVariables false
set_option linter.unusedSimpArgs false
set_option linter.unusedSectionVars false
set_option linter.unnecessarySimpa false
set_option maxRecDepth 1000000
set_option maxHeartbeats 4000000
namespace Go.AM
section
variable {V : VProg}
def v103 : VV := .ls [[.i .i64 4, .i .i64 0, .s ⟨⟨[97]⟩⟩, .s ⟨⟨[120]⟩⟩, .ls [[.i .i64 1, .i .i64 3, .s ⟨⟨[]⟩⟩, .ls []]], .ls [], .ls []]]
def a4353 : Ans := ⟨n_withelaw27_ExecAtomic_1, [.i .u8 3], v103⟩
theorem t4353 (C : VCode V) : VA V a4353 := VA_of (envOk C) C.c_withelaw27_ExecAtomic_1.1 C.c_withelaw27_ExecAtomic_1.2 (O := []) .nil (by kernel_rfl)
def a4356 : Ans := ⟨n_witheref9_expr, [.ag [.i .i64 1, .i .i64 3, .s ⟨⟨[]⟩⟩, .ls []], .i .i64 4, .ls []], .i .i64 0⟩
theorem t4356 (C : VCode V) : VA V a4356 := VA_of (envOk C) C.c_witheref9_expr.1 C.c_witheref9_expr.2 (O := []) .nil (by kernel_rfl)
def a4359 : Ans := ⟨n_witheref9_Regs, [v103], .ls [[.s ⟨⟨[97]⟩⟩]]⟩
theorem t4359 (C : VCode V) : VA V a4359 := VA_of (envOk C) C.c_witheref9_Regs.1 C.c_witheref9_Regs.2 (O := []) .nil (by kernel_rfl)
def a4362 : Ans := ⟨n_witheref9_Expr, [.ag [.i .i64 1, .i .i64 3, .s ⟨⟨[]⟩⟩, .ls []], .ls [[.s ⟨⟨[97]⟩⟩]], .ls [[.i .i64 0]], .i .i64 4], .tu [.i .i64 3, .b true]⟩
theorem t4362 (C : VCode V) : VA V a4362 := VA_of (envOk C) C.c_witheref9_Expr.1 C.c_witheref9_Expr.2 (O := []) .nil (by kernel_rfl)
def v104 : VV := .ls [[v33], [v103]]
def v105 : VV := .ag [.s ⟨⟨[97]⟩⟩, .i .i64 4, .ls [[.s ⟨⟨[120]⟩⟩, .i .i64 0]], v104, .i .i64 1, .i .i64 1, .i .i64 0, .s ⟨⟨[120]⟩⟩, .i .i64 0, .ls []]
def v106 : VV := .ls [[.i .i64 (-1), .i .i64 (-1), .i .i64 3, .i .i64 0, .i .i64 0, .i .i64 0, .b false, .b false, .ls []], [.i .i64 0, .i .i64 (-1), .i .i64 1, .i .i64 0, .i .i64 0, .i .i64 0, .b false, .b false, .ls []], [.i .i64 0, .i .i64 1, .i .i64 2, .i .i64 0, .i .i64 0, .i .i64 0, .b false, .b false, .ls []], [.i .i64 0, .i .i64 2, .i .i64 3, .i .i64 0, .i .i64 0, .i .i64 0, .b true, .b true, .ls [[.i .i64 0]]], [.i .i64 0, .i .i64 1, .i .i64 2, .i .i64 0, .i .i64 0, .i .i64 1, .b false, .b false, .ls []], [.i .i64 0, .i .i64 4, .i .i64 3, .i .i64 0, .i .i64 0, .i .i64 1, .b true, .b true, .ls [[.i .i64 1]]], [.i .i64 0, .i .i64 1, .i .i64 2, .i .i64 0, .i .i64 0, .i .i64 2, .b false, .b false, .ls []], [.i .i64 0, .i .i64 6, .i .i64 3, .i .i64 0, .i .i64 0, .i .i64 2, .b true, .b true, .ls [[.i .i64 2]]], [.i .i64 0, .i .i64 1, .i .i64 2, .i .i64 0, .i .i64 0, .i .i64 3, .b false, .b false, .ls []], [.i .i64 0, .i .i64 8, .i .i64 3, .i .i64 0, .i .i64 0, .i .i64 3, .b true, .b true, .ls [[.i .i64 3]]], [.i .i64 1, .i .i64 (-1), .i .i64 1, .i .i64 0, .i .i64 0, .i .i64 0, .b false, .b false, .ls []], [.i .i64 1, .i .i64 10, .i .i64 2, .i .i64 0, .i .i64 0, .i .i64 0, .b false, .b false, .ls []], [.i .i64 1, .i .i64 11, .i .i64 3, .i .i64 0, .i .i64 0, .i .i64 3, .b true, .b true, .ls [[.i .i64 0]]], [.i .i64 1, .i .i64 10, .i .i64 2, .i .i64 0, .i .i64 0, .i .i64 1, .b false, .b false, .ls []], [.i .i64 1, .i .i64 13, .i .i64 3, .i .i64 0, .i .i64 0, .i .i64 0, .b true, .b true, .ls [[.i .i64 1]]], [.i .i64 1, .i .i64 10, .i .i64 2, .i .i64 0, .i .i64 0, .i .i64 2, .b false, .b false, .ls []], [.i .i64 1, .i .i64 15, .i .i64 3, .i .i64 0, .i .i64 0, .i .i64 1, .b true, .b true, .ls [[.i .i64 2]]], [.i .i64 1, .i .i64 10, .i .i64 2, .i .i64 0, .i .i64 0, .i .i64 3, .b false, .b false, .ls []], [.i .i64 1, .i .i64 17, .i .i64 3, .i .i64 0, .i .i64 0, .i .i64 2, .b true, .b true, .ls [[.i .i64 3]]]]
def v107 : VV := .ag [.i .i64 4, .ls [[.s ⟨⟨[120]⟩⟩]], .ls [[.ls [[.s ⟨⟨[97]⟩⟩]]], [.ls [[.s ⟨⟨[97]⟩⟩]]]], v106]
def v108 : VV := .tu [v107, .b true]
def a4365 : Ans := ⟨n_withemade_Tree, [v105], v108⟩
theorem t4365 (C : VCode V) : VA V a4365 := VA_of (envOk C) C.c_withemade_Tree.1 C.c_withemade_Tree.2 (O := [a27, a9, a27, a1000, a27, a4356, a1002, a1005, a4359, a1009, a1009, a1009, a1009, a4362, a4362, a4362, a4362]) (.cons (t27 C) (.cons (t9 C) (.cons (t27 C) (.cons (t1000 C) (.cons (t27 C) (.cons (t4356 C) (.cons (t1002 C) (.cons (t1005 C) (.cons (t4359 C) (.cons (t1009 C) (.cons (t1009 C) (.cons (t1009 C) (.cons (t1009 C) (.cons (t4362 C) (.cons (t4362 C) (.cons (t4362 C) (.cons (t4362 C) .nil))))))))))))))))) (by kernel_rfl)
def a4441 : Ans := ⟨n_lts_May, [v107], .b true⟩
theorem t4441 (C : VCode V) : VA V a4441 := VA_of (envOk C) C.c_lts_May.1 C.c_lts_May.2 (O := []) .nil (by kernel_rfl)
def v109 : VV := .ag [.i .i64 4, .ls [[.s ⟨⟨[120]⟩⟩]], .ls [[.ls [[.s ⟨⟨[97]⟩⟩]]], [.ls [[.s ⟨⟨[97]⟩⟩]]]], v106, v41, v42]
def v110 : VV := .f n_tree_deep_before [v109] []
def a5165 : Ans := ⟨n_tree_deep_rows, [v109, v110], v45⟩
theorem t5165 (C : VCode V) : VA V a5165 := VA_of (envOk C) C.c_tree_deep_rows.1 C.c_tree_deep_rows.2 (O := []) .nil (by kernel_rfl)
def a5166 : Ans := ⟨n_tree_Po, [v107], v45⟩
theorem t5166 (C : VCode V) : VA V a5166 := VA_of (envOk C) C.c_tree_Po.1 C.c_tree_Po.2 (O := [a4441, a5165]) (.cons (t4441 C) (.cons (t5165 C) .nil)) (by kernel_rfl)
def a5178 : Ans := ⟨n_sync_Hb, [v107, v40, v49], v46⟩
theorem t5178 (C : VCode V) : VA V a5178 := VA_of (envOk C) C.c_sync_Hb.1 C.c_sync_Hb.2 (O := [a4441, a1095, a1097, a5166, a2025, a2033, a2071, a2101]) (.cons (t4441 C) (.cons (t1095 C) (.cons (t1097 C) (.cons (t5166 C) (.cons (t2025 C) (.cons (t2033 C) (.cons (t2071 C) (.cons (t2101 C) .nil)))))))) (by kernel_rfl)
def a5180 : Ans := ⟨n_cohe_Is, [v107, v50], .b true⟩
theorem t5180 (C : VCode V) : VA V a5180 := VA_of (envOk C) C.c_cohe_Is.1 C.c_cohe_Is.2 (O := [a5178, a2106]) (.cons (t5178 C) (.cons (t2106 C) .nil)) (by kernel_rfl)
def v111 : VV := .ag [.i .i64 4, .ls [[.s ⟨⟨[120]⟩⟩]], .ls [[.ls [[.s ⟨⟨[97]⟩⟩]]], [.ls [[.s ⟨⟨[97]⟩⟩]]]], v106, v40, v49, .ls [[.ls [[.i .i64 0], [.i .i64 3], [.i .i64 12]]]], v46]
def a5184 : Ans := ⟨n_exec_run_atomic, [v111], .b false⟩
theorem t5184 (C : VCode V) : VA V a5184 := VA_of (envOk C) C.c_exec_run_atomic.1 C.c_exec_run_atomic.2 (O := [a2114]) (.cons (t2114 C) .nil) (by kernel_rfl)
def a5185 : Ans := ⟨n_exec_Atomic, [v107, v50], .b false⟩
theorem t5185 (C : VCode V) : VA V a5185 := VA_of (envOk C) C.c_exec_Atomic.1 C.c_exec_Atomic.2 (O := [a5180, a5178, a5184]) (.cons (t5180 C) (.cons (t5178 C) (.cons (t5184 C) .nil))) (by kernel_rfl)
def a5187 : Ans := ⟨n_cohe_Is, [v107, v52], .b true⟩
theorem t5187 (C : VCode V) : VA V a5187 := VA_of (envOk C) C.c_cohe_Is.1 C.c_cohe_Is.2 (O := [a5178, a2119]) (.cons (t5178 C) (.cons (t2119 C) .nil)) (by kernel_rfl)
def v112 : VV := .ag [.i .i64 4, .ls [[.s ⟨⟨[120]⟩⟩]], .ls [[.ls [[.s ⟨⟨[97]⟩⟩]]], [.ls [[.s ⟨⟨[97]⟩⟩]]]], v106, v40, v49, .ls [[.ls [[.i .i64 0], [.i .i64 12], [.i .i64 3]]]], v46]
def a5190 : Ans := ⟨n_exec_run_atomic, [v112], .b false⟩
theorem t5190 (C : VCode V) : VA V a5190 := VA_of (envOk C) C.c_exec_run_atomic.1 C.c_exec_run_atomic.2 (O := []) .nil (by kernel_rfl)
def a5191 : Ans := ⟨n_exec_Atomic, [v107, v52], .b false⟩
theorem t5191 (C : VCode V) : VA V a5191 := VA_of (envOk C) C.c_exec_Atomic.1 C.c_exec_Atomic.2 (O := [a5187, a5178, a5190]) (.cons (t5187 C) (.cons (t5178 C) (.cons (t5190 C) .nil))) (by kernel_rfl)
def v113 : VV := .fp [.i .i64 4, .ls [[.s ⟨⟨[120]⟩⟩]], .ls [[.ls [[.s ⟨⟨[97]⟩⟩]]], [.ls [[.s ⟨⟨[97]⟩⟩]]]], v106] 0
def v114 : VV := .fp [.i .i64 4, .ls [[.s ⟨⟨[120]⟩⟩]], .ls [[.ls [[.s ⟨⟨[97]⟩⟩]]], [.ls [[.s ⟨⟨[97]⟩⟩]]]], v106, v40, v49, .ls [[.ls [[.i .i64 0], [.i .i64 3], [.i .i64 12]]]]] 0
def a5196 : Ans := ⟨n_cohe_Exec_1, [.i .i64 2, v113, v114], .i .i64 0⟩
theorem t5196 (C : VCode V) : VA V a5196 := VA_of (envOk C) C.c_cohe_Exec_1.1 C.c_cohe_Exec_1.2 (O := []) .nil (by kernel_rfl)
def a5198 : Ans := ⟨n_cohe_Exec_1, [.i .i64 3, v113, v114], .i .i64 1⟩
theorem t5198 (C : VCode V) : VA V a5198 := VA_of (envOk C) C.c_cohe_Exec_1.1 C.c_cohe_Exec_1.2 (O := []) .nil (by kernel_rfl)
def a5201 : Ans := ⟨n_cohe_Exec_1, [.i .i64 11, v113, v114], .i .i64 0⟩
theorem t5201 (C : VCode V) : VA V a5201 := VA_of (envOk C) C.c_cohe_Exec_1.1 C.c_cohe_Exec_1.2 (O := [a2114]) (.cons (t2114 C) .nil) (by kernel_rfl)
def a5203 : Ans := ⟨n_cohe_Exec_1, [.i .i64 12, v113, v114], .i .i64 2⟩
theorem t5203 (C : VCode V) : VA V a5203 := VA_of (envOk C) C.c_cohe_Exec_1.1 C.c_cohe_Exec_1.2 (O := []) .nil (by kernel_rfl)
def v115 : VV := .ag [.i .i64 1, .i .i64 11, .i .i64 3, .i .i64 0, .i .i64 0, .i .i64 3, .b true, .b true, .ls [[.i .i64 0]]]
def a5206 : Ans := ⟨n_cohe_Pair, [v57, v115, .i .i64 0, .i .i64 2], .b true⟩
theorem t5206 (C : VCode V) : VA V a5206 := VA_of (envOk C) C.c_cohe_Pair.1 C.c_cohe_Pair.2 (O := []) .nil (by kernel_rfl)
def a5209 : Ans := ⟨n_cohe_Pair, [v60, v115, .i .i64 0, .i .i64 2], .b true⟩
theorem t5209 (C : VCode V) : VA V a5209 := VA_of (envOk C) C.c_cohe_Pair.1 C.c_cohe_Pair.2 (O := []) .nil (by kernel_rfl)
def a5212 : Ans := ⟨n_exec_Good, [v107, v50], .b false⟩
theorem t5212 (C : VCode V) : VA V a5212 := VA_of (envOk C) C.c_exec_Good.1 C.c_exec_Good.2 (O := [a5180, a5178, a5180, a5178, a2140, a5196, a2148, a5198, a2153, a5201, a2159, a5203, a5206, a5196, a5198, a5196, a5198, a2168, a5201, a5203, a5201, a5203, a5209, a5184]) (.cons (t5180 C) (.cons (t5178 C) (.cons (t5180 C) (.cons (t5178 C) (.cons (t2140 C) (.cons (t5196 C) (.cons (t2148 C) (.cons (t5198 C) (.cons (t2153 C) (.cons (t5201 C) (.cons (t2159 C) (.cons (t5203 C) (.cons (t5206 C) (.cons (t5196 C) (.cons (t5198 C) (.cons (t5196 C) (.cons (t5198 C) (.cons (t2168 C) (.cons (t5201 C) (.cons (t5203 C) (.cons (t5201 C) (.cons (t5203 C) (.cons (t5209 C) (.cons (t5184 C) .nil)))))))))))))))))))))))) (by kernel_rfl)
def v116 : VV := .fp [.i .i64 4, .ls [[.s ⟨⟨[120]⟩⟩]], .ls [[.ls [[.s ⟨⟨[97]⟩⟩]]], [.ls [[.s ⟨⟨[97]⟩⟩]]]], v106, v40, v49, .ls [[.ls [[.i .i64 0], [.i .i64 12], [.i .i64 3]]]]] 0
def a5217 : Ans := ⟨n_cohe_Exec_1, [.i .i64 2, v113, v116], .i .i64 0⟩
theorem t5217 (C : VCode V) : VA V a5217 := VA_of (envOk C) C.c_cohe_Exec_1.1 C.c_cohe_Exec_1.2 (O := []) .nil (by kernel_rfl)
def a5219 : Ans := ⟨n_cohe_Exec_1, [.i .i64 3, v113, v116], .i .i64 2⟩
theorem t5219 (C : VCode V) : VA V a5219 := VA_of (envOk C) C.c_cohe_Exec_1.1 C.c_cohe_Exec_1.2 (O := []) .nil (by kernel_rfl)
def a5222 : Ans := ⟨n_cohe_Exec_1, [.i .i64 11, v113, v116], .i .i64 0⟩
theorem t5222 (C : VCode V) : VA V a5222 := VA_of (envOk C) C.c_cohe_Exec_1.1 C.c_cohe_Exec_1.2 (O := [a2114]) (.cons (t2114 C) .nil) (by kernel_rfl)
def a5224 : Ans := ⟨n_cohe_Exec_1, [.i .i64 12, v113, v116], .i .i64 1⟩
theorem t5224 (C : VCode V) : VA V a5224 := VA_of (envOk C) C.c_cohe_Exec_1.1 C.c_cohe_Exec_1.2 (O := []) .nil (by kernel_rfl)
def a5227 : Ans := ⟨n_cohe_Pair, [v57, v115, .i .i64 0, .i .i64 1], .b true⟩
theorem t5227 (C : VCode V) : VA V a5227 := VA_of (envOk C) C.c_cohe_Pair.1 C.c_cohe_Pair.2 (O := []) .nil (by kernel_rfl)
def a5230 : Ans := ⟨n_cohe_Pair, [v60, v115, .i .i64 0, .i .i64 1], .b true⟩
theorem t5230 (C : VCode V) : VA V a5230 := VA_of (envOk C) C.c_cohe_Pair.1 C.c_cohe_Pair.2 (O := []) .nil (by kernel_rfl)
def a5233 : Ans := ⟨n_exec_Good, [v107, v52], .b false⟩
theorem t5233 (C : VCode V) : VA V a5233 := VA_of (envOk C) C.c_exec_Good.1 C.c_exec_Good.2 (O := [a5187, a5178, a5187, a5178, a2140, a5217, a2148, a5219, a2185, a5222, a2159, a5224, a5227, a5217, a5219, a5217, a5219, a2197, a5222, a5224, a5222, a5224, a5230, a5190]) (.cons (t5187 C) (.cons (t5178 C) (.cons (t5187 C) (.cons (t5178 C) (.cons (t2140 C) (.cons (t5217 C) (.cons (t2148 C) (.cons (t5219 C) (.cons (t2185 C) (.cons (t5222 C) (.cons (t2159 C) (.cons (t5224 C) (.cons (t5227 C) (.cons (t5217 C) (.cons (t5219 C) (.cons (t5217 C) (.cons (t5219 C) (.cons (t2197 C) (.cons (t5222 C) (.cons (t5224 C) (.cons (t5222 C) (.cons (t5224 C) (.cons (t5230 C) (.cons (t5190 C) .nil)))))))))))))))))))))))) (by kernel_rfl)
def a5256 : Ans := ⟨n_sync_Hb, [v107, v40, v63], v46⟩
theorem t5256 (C : VCode V) : VA V a5256 := VA_of (envOk C) C.c_sync_Hb.1 C.c_sync_Hb.2 (O := [a4441, a1095, a1097, a5166, a2025, a2033, a2033, a2071, a2101]) (.cons (t4441 C) (.cons (t1095 C) (.cons (t1097 C) (.cons (t5166 C) (.cons (t2025 C) (.cons (t2033 C) (.cons (t2033 C) (.cons (t2071 C) (.cons (t2101 C) .nil))))))))) (by kernel_rfl)
def a5258 : Ans := ⟨n_cohe_Is, [v107, v64], .b true⟩
theorem t5258 (C : VCode V) : VA V a5258 := VA_of (envOk C) C.c_cohe_Is.1 C.c_cohe_Is.2 (O := [a5256, a2106]) (.cons (t5256 C) (.cons (t2106 C) .nil)) (by kernel_rfl)
def v117 : VV := .ag [.i .i64 4, .ls [[.s ⟨⟨[120]⟩⟩]], .ls [[.ls [[.s ⟨⟨[97]⟩⟩]]], [.ls [[.s ⟨⟨[97]⟩⟩]]]], v106, v40, v63, .ls [[.ls [[.i .i64 0], [.i .i64 3], [.i .i64 12]]]], v46]
def a5262 : Ans := ⟨n_exec_run_atomic, [v117], .b true⟩
theorem t5262 (C : VCode V) : VA V a5262 := VA_of (envOk C) C.c_exec_run_atomic.1 C.c_exec_run_atomic.2 (O := [a2114]) (.cons (t2114 C) .nil) (by kernel_rfl)
def a5263 : Ans := ⟨n_exec_Atomic, [v107, v64], .b true⟩
theorem t5263 (C : VCode V) : VA V a5263 := VA_of (envOk C) C.c_exec_Atomic.1 C.c_exec_Atomic.2 (O := [a5258, a5256, a5262]) (.cons (t5258 C) (.cons (t5256 C) (.cons (t5262 C) .nil))) (by kernel_rfl)
def v118 : VV := .fp [.i .i64 4, .ls [[.s ⟨⟨[120]⟩⟩]], .ls [[.ls [[.s ⟨⟨[97]⟩⟩]]], [.ls [[.s ⟨⟨[97]⟩⟩]]]], v106, v40, v63, .ls [[.ls [[.i .i64 0], [.i .i64 3], [.i .i64 12]]]]] 0
def a5268 : Ans := ⟨n_cohe_Exec_1, [.i .i64 2, v113, v118], .i .i64 0⟩
theorem t5268 (C : VCode V) : VA V a5268 := VA_of (envOk C) C.c_cohe_Exec_1.1 C.c_cohe_Exec_1.2 (O := []) .nil (by kernel_rfl)
def a5270 : Ans := ⟨n_cohe_Exec_1, [.i .i64 3, v113, v118], .i .i64 1⟩
theorem t5270 (C : VCode V) : VA V a5270 := VA_of (envOk C) C.c_cohe_Exec_1.1 C.c_cohe_Exec_1.2 (O := []) .nil (by kernel_rfl)
def a5273 : Ans := ⟨n_cohe_Exec_1, [.i .i64 11, v113, v118], .i .i64 1⟩
theorem t5273 (C : VCode V) : VA V a5273 := VA_of (envOk C) C.c_cohe_Exec_1.1 C.c_cohe_Exec_1.2 (O := [a2114]) (.cons (t2114 C) .nil) (by kernel_rfl)
def a5275 : Ans := ⟨n_cohe_Exec_1, [.i .i64 12, v113, v118], .i .i64 2⟩
theorem t5275 (C : VCode V) : VA V a5275 := VA_of (envOk C) C.c_cohe_Exec_1.1 C.c_cohe_Exec_1.2 (O := []) .nil (by kernel_rfl)
def a5281 : Ans := ⟨n_exec_run_behind, [v117, .i .i64 0], .i .u64 4104⟩
theorem t5281 (C : VCode V) : VA V a5281 := VA_of (envOk C) C.c_exec_run_behind.1 C.c_exec_run_behind.2 (O := []) .nil (by kernel_rfl)
def a5293 : Ans := ⟨n_exec_run_behind, [v117, .i .i64 3], .i .u64 4096⟩
theorem t5293 (C : VCode V) : VA V a5293 := VA_of (envOk C) C.c_exec_run_behind.1 C.c_exec_run_behind.2 (O := []) .nil (by kernel_rfl)
def a5319 : Ans := ⟨n_exec_Good, [v107, v64], .b true⟩
theorem t5319 (C : VCode V) : VA V a5319 := VA_of (envOk C) C.c_exec_Good.1 C.c_exec_Good.2 (O := [a5258, a5256, a5258, a5256, a2140, a5268, a2148, a5270, a2153, a5273, a2247, a5275, a5206, a5268, a5270, a5268, a5270, a2168, a5273, a5275, a5273, a5275, a5262, a5281, a5281, a5293, a2114, a5293, a2288, a2333, a2364, a2367, a2383]) (.cons (t5258 C) (.cons (t5256 C) (.cons (t5258 C) (.cons (t5256 C) (.cons (t2140 C) (.cons (t5268 C) (.cons (t2148 C) (.cons (t5270 C) (.cons (t2153 C) (.cons (t5273 C) (.cons (t2247 C) (.cons (t5275 C) (.cons (t5206 C) (.cons (t5268 C) (.cons (t5270 C) (.cons (t5268 C) (.cons (t5270 C) (.cons (t2168 C) (.cons (t5273 C) (.cons (t5275 C) (.cons (t5273 C) (.cons (t5275 C) (.cons (t5262 C) (.cons (t5281 C) (.cons (t5281 C) (.cons (t5293 C) (.cons (t2114 C) (.cons (t5293 C) (.cons (t2288 C) (.cons (t2333 C) (.cons (t2364 C) (.cons (t2367 C) (.cons (t2383 C) .nil))))))))))))))))))))))))))))))))) (by kernel_rfl)
def a5328 : Ans := ⟨n_witheref17_ExecForm, [v107, v64], .b true⟩
theorem t5328 (C : VCode V) : VA V a5328 := VA_of (envOk C) C.c_witheref17_ExecForm.1 C.c_witheref17_ExecForm.2 (O := [a2397]) (.cons (t2397 C) .nil) (by kernel_rfl)
end
end Go.AM
