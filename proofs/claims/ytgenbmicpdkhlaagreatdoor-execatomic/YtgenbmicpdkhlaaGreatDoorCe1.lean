/-
  Certificates: what calls answer, each carried out by the kernel.
-/
import Derived.Test.YtgenbmicpdkhlaaGreatDoorCeE
import Derived.KernelRfl
import Derived.Test.YtgenbmicpdkhlaaGreatDoorCe0
set_option linter.unusedVariables false
set_option linter.unusedSimpArgs false
set_option linter.unusedSectionVars false
set_option linter.unnecessarySimpa false
set_option maxRecDepth 1000000
set_option maxHeartbeats 4000000
namespace Go.AM
section
variable {V : VProg}
def v33 : VV := .ls [[.i .i64 4, .i .i64 0, .s ⟨⟨[97]⟩⟩, .s ⟨⟨[120]⟩⟩, .ls [[.i .i64 1, .i .i64 0, .s ⟨⟨[]⟩⟩, .ls []]], .ls [], .ls []]]
def a991 : Ans := ⟨n_withelaw27_ExecAtomic_1, [.i .u8 0], v33⟩
theorem t991 (C : VCode V) : VA V a991 := VA_of (envOk C) C.c_withelaw27_ExecAtomic_1.1 C.c_withelaw27_ExecAtomic_1.2 (O := []) .nil (by kernel_rfl)
def a1000 : Ans := ⟨n_witheref9_expr, [.ag [.i .i64 1, .i .i64 0, .s ⟨⟨[]⟩⟩, .ls []], .i .i64 4, .ls []], .i .i64 0⟩
theorem t1000 (C : VCode V) : VA V a1000 := VA_of (envOk C) C.c_witheref9_expr.1 C.c_witheref9_expr.2 (O := []) .nil (by kernel_rfl)
def v34 : VV := .ag [.i .i64 1, .i .i64 0, .s ⟨⟨[120]⟩⟩, .i .i64 0, .ls []]
def a1002 : Ans := ⟨n_witheref9_cond, [v34, .i .i64 4, .ls [[.s ⟨⟨[120]⟩⟩]], .ls [[.ls [[.s ⟨⟨[97]⟩⟩]]], [.ls [[.s ⟨⟨[97]⟩⟩]]]]], .i .i64 0⟩
theorem t1002 (C : VCode V) : VA V a1002 := VA_of (envOk C) C.c_witheref9_cond.1 C.c_witheref9_cond.2 (O := []) .nil (by kernel_rfl)
def a1005 : Ans := ⟨n_witheref9_Regs, [v33], .ls [[.s ⟨⟨[97]⟩⟩]]⟩
theorem t1005 (C : VCode V) : VA V a1005 := VA_of (envOk C) C.c_witheref9_Regs.1 C.c_witheref9_Regs.2 (O := []) .nil (by kernel_rfl)
def a1009 : Ans := ⟨n_witheref9_Expr, [.ag [.i .i64 1, .i .i64 0, .s ⟨⟨[]⟩⟩, .ls []], .ls [[.s ⟨⟨[97]⟩⟩]], .ls [[.i .i64 0]], .i .i64 4], .tu [.i .i64 0, .b true]⟩
theorem t1009 (C : VCode V) : VA V a1009 := VA_of (envOk C) C.c_witheref9_Expr.1 C.c_witheref9_Expr.2 (O := []) .nil (by kernel_rfl)
def v35 : VV := .ls [[v33], [v33]]
def v36 : VV := .ag [.s ⟨⟨[97]⟩⟩, .i .i64 4, .ls [[.s ⟨⟨[120]⟩⟩, .i .i64 0]], v35, .i .i64 1, .i .i64 1, .i .i64 0, .s ⟨⟨[120]⟩⟩, .i .i64 0, .ls []]
def v37 : VV := .ls [[.i .i64 (-1), .i .i64 (-1), .i .i64 3, .i .i64 0, .i .i64 0, .i .i64 0, .b false, .b false, .ls []], [.i .i64 0, .i .i64 (-1), .i .i64 1, .i .i64 0, .i .i64 0, .i .i64 0, .b false, .b false, .ls []], [.i .i64 0, .i .i64 1, .i .i64 2, .i .i64 0, .i .i64 0, .i .i64 0, .b false, .b false, .ls []], [.i .i64 0, .i .i64 2, .i .i64 3, .i .i64 0, .i .i64 0, .i .i64 0, .b true, .b true, .ls [[.i .i64 0]]], [.i .i64 0, .i .i64 1, .i .i64 2, .i .i64 0, .i .i64 0, .i .i64 1, .b false, .b false, .ls []], [.i .i64 0, .i .i64 4, .i .i64 3, .i .i64 0, .i .i64 0, .i .i64 1, .b true, .b true, .ls [[.i .i64 1]]], [.i .i64 0, .i .i64 1, .i .i64 2, .i .i64 0, .i .i64 0, .i .i64 2, .b false, .b false, .ls []], [.i .i64 0, .i .i64 6, .i .i64 3, .i .i64 0, .i .i64 0, .i .i64 2, .b true, .b true, .ls [[.i .i64 2]]], [.i .i64 0, .i .i64 1, .i .i64 2, .i .i64 0, .i .i64 0, .i .i64 3, .b false, .b false, .ls []], [.i .i64 0, .i .i64 8, .i .i64 3, .i .i64 0, .i .i64 0, .i .i64 3, .b true, .b true, .ls [[.i .i64 3]]], [.i .i64 1, .i .i64 (-1), .i .i64 1, .i .i64 0, .i .i64 0, .i .i64 0, .b false, .b false, .ls []], [.i .i64 1, .i .i64 10, .i .i64 2, .i .i64 0, .i .i64 0, .i .i64 0, .b false, .b false, .ls []], [.i .i64 1, .i .i64 11, .i .i64 3, .i .i64 0, .i .i64 0, .i .i64 0, .b true, .b true, .ls [[.i .i64 0]]], [.i .i64 1, .i .i64 10, .i .i64 2, .i .i64 0, .i .i64 0, .i .i64 1, .b false, .b false, .ls []], [.i .i64 1, .i .i64 13, .i .i64 3, .i .i64 0, .i .i64 0, .i .i64 1, .b true, .b true, .ls [[.i .i64 1]]], [.i .i64 1, .i .i64 10, .i .i64 2, .i .i64 0, .i .i64 0, .i .i64 2, .b false, .b false, .ls []], [.i .i64 1, .i .i64 15, .i .i64 3, .i .i64 0, .i .i64 0, .i .i64 2, .b true, .b true, .ls [[.i .i64 2]]], [.i .i64 1, .i .i64 10, .i .i64 2, .i .i64 0, .i .i64 0, .i .i64 3, .b false, .b false, .ls []], [.i .i64 1, .i .i64 17, .i .i64 3, .i .i64 0, .i .i64 0, .i .i64 3, .b true, .b true, .ls [[.i .i64 3]]]]
def v38 : VV := .ag [.i .i64 4, .ls [[.s ⟨⟨[120]⟩⟩]], .ls [[.ls [[.s ⟨⟨[97]⟩⟩]]], [.ls [[.s ⟨⟨[97]⟩⟩]]]], v37]
def v39 : VV := .tu [v38, .b true]
def a1014 : Ans := ⟨n_withemade_Tree, [v36], v39⟩
theorem t1014 (C : VCode V) : VA V a1014 := VA_of (envOk C) C.c_withemade_Tree.1 C.c_withemade_Tree.2 (O := [a27, a9, a27, a1000, a27, a1000, a1002, a1005, a1005, a1009, a1009, a1009, a1009, a1009, a1009, a1009, a1009]) (.cons (t27 C) (.cons (t9 C) (.cons (t27 C) (.cons (t1000 C) (.cons (t27 C) (.cons (t1000 C) (.cons (t1002 C) (.cons (t1005 C) (.cons (t1005 C) (.cons (t1009 C) (.cons (t1009 C) (.cons (t1009 C) (.cons (t1009 C) (.cons (t1009 C) (.cons (t1009 C) (.cons (t1009 C) (.cons (t1009 C) .nil))))))))))))))))) (by kernel_rfl)
def a1091 : Ans := ⟨n_lts_May, [v38], .b true⟩
theorem t1091 (C : VCode V) : VA V a1091 := VA_of (envOk C) C.c_lts_May.1 C.c_lts_May.2 (O := []) .nil (by kernel_rfl)
def v40 : VV := .ls [[.i .i64 0], [.i .i64 1], [.i .i64 2], [.i .i64 3], [.i .i64 10], [.i .i64 11], [.i .i64 12]]
def a1095 : Ans := ⟨n_bits_Of, [v40], .i .u64 7183⟩
theorem t1095 (C : VCode V) : VA V a1095 := VA_of (envOk C) C.c_bits_Of.1 C.c_bits_Of.2 (O := []) .nil (by kernel_rfl)
def a1097 : Ans := ⟨n_mathbits_Mul, [.i .u64 1, .i .u64 19], .tu [.i .u64 0, .i .u64 19]⟩
theorem t1097 (C : VCode V) : VA V a1097 := VA_of (envOk C) C.c_mathbits_Mul.1 C.c_mathbits_Mul.2 (O := []) .nil (by kernel_rfl)
def v41 : VV := .ls [[.i .i64 0], [.i .i64 0], [.i .i64 1], [.i .i64 2], [.i .i64 1], [.i .i64 2], [.i .i64 1], [.i .i64 2], [.i .i64 1], [.i .i64 2], [.i .i64 0], [.i .i64 1], [.i .i64 2], [.i .i64 1], [.i .i64 2], [.i .i64 1], [.i .i64 2], [.i .i64 1], [.i .i64 2]]
def v42 : VV := .ls [[.i .u64 0], [.i .u64 0], [.i .u64 2], [.i .u64 6], [.i .u64 2], [.i .u64 18], [.i .u64 2], [.i .u64 66], [.i .u64 2], [.i .u64 258], [.i .u64 0], [.i .u64 1024], [.i .u64 3072], [.i .u64 1024], [.i .u64 9216], [.i .u64 1024], [.i .u64 33792], [.i .u64 1024], [.i .u64 132096]]
def v43 : VV := .ag [.i .i64 4, .ls [[.s ⟨⟨[120]⟩⟩]], .ls [[.ls [[.s ⟨⟨[97]⟩⟩]]], [.ls [[.s ⟨⟨[97]⟩⟩]]]], v37, v41, v42]
def v44 : VV := .f n_tree_deep_before [v43] []
def v45 : VV := .ls [[.i .u64 524286], [.i .u64 1020], [.i .u64 8], [.i .u64 0], [.i .u64 32], [.i .u64 0], [.i .u64 128], [.i .u64 0], [.i .u64 512], [.i .u64 0], [.i .u64 522240], [.i .u64 4096], [.i .u64 0], [.i .u64 16384], [.i .u64 0], [.i .u64 65536], [.i .u64 0], [.i .u64 262144], [.i .u64 0]]
def a1948 : Ans := ⟨n_tree_deep_rows, [v43, v44], v45⟩
theorem t1948 (C : VCode V) : VA V a1948 := VA_of (envOk C) C.c_tree_deep_rows.1 C.c_tree_deep_rows.2 (O := []) .nil (by kernel_rfl)
def a1949 : Ans := ⟨n_tree_Po, [v38], v45⟩
theorem t1949 (C : VCode V) : VA V a1949 := VA_of (envOk C) C.c_tree_Po.1 C.c_tree_Po.2 (O := [a1091, a1948]) (.cons (t1091 C) (.cons (t1948 C) .nil)) (by kernel_rfl)
def a1959 : Ans := ⟨n_bits_Range, [.i .i64 0, .i .i64 19], .i .u64 524287⟩
theorem t1959 (C : VCode V) : VA V a1959 := VA_of (envOk C) C.c_bits_Range.1 C.c_bits_Range.2 (O := []) .nil (by kernel_rfl)
def a1986 : Ans := ⟨n_rel_May, [v45], .b true⟩
theorem t1986 (C : VCode V) : VA V a1986 := VA_of (envOk C) C.c_rel_May.1 C.c_rel_May.2 (O := [a1959]) (.cons (t1959 C) .nil) (by kernel_rfl)
def v46 : VV := .ls [[.i .u64 7182], [.i .u64 12], [.i .u64 8], [.i .u64 0], [.i .u64 0], [.i .u64 0], [.i .u64 0], [.i .u64 0], [.i .u64 0], [.i .u64 0], [.i .u64 6144], [.i .u64 4096], [.i .u64 0], [.i .u64 0], [.i .u64 0], [.i .u64 0], [.i .u64 0], [.i .u64 0], [.i .u64 0]]
def a2025 : Ans := ⟨n_rel_Keep, [v45, .i .u64 7183], v46⟩
theorem t2025 (C : VCode V) : VA V a2025 := VA_of (envOk C) C.c_rel_Keep.1 C.c_rel_Keep.2 (O := [a1986]) (.cons (t1986 C) .nil) (by kernel_rfl)
def a2033 : Ans := ⟨n_bits_List, [.i .u64 7183], v40⟩
theorem t2033 (C : VCode V) : VA V a2033 := VA_of (envOk C) C.c_bits_List.1 C.c_bits_List.2 (O := []) .nil (by kernel_rfl)
def a2045 : Ans := ⟨n_rel_May, [v46], .b true⟩
theorem t2045 (C : VCode V) : VA V a2045 := VA_of (envOk C) C.c_rel_May.1 C.c_rel_May.2 (O := [a1959]) (.cons (t1959 C) .nil) (by kernel_rfl)
def v47 : VV := .ls [[.i .u64 0], [.i .u64 0], [.i .u64 0], [.i .u64 0], [.i .u64 0], [.i .u64 0], [.i .u64 0], [.i .u64 0], [.i .u64 0], [.i .u64 0], [.i .u64 0], [.i .u64 0], [.i .u64 0], [.i .u64 0], [.i .u64 0], [.i .u64 0], [.i .u64 0], [.i .u64 0], [.i .u64 0]]
def a2048 : Ans := ⟨n_rel_May, [v47], .b true⟩
theorem t2048 (C : VCode V) : VA V a2048 := VA_of (envOk C) C.c_rel_May.1 C.c_rel_May.2 (O := [a1959]) (.cons (t1959 C) .nil) (by kernel_rfl)
def a2071 : Ans := ⟨n_rel_Or, [v46, v47], v46⟩
theorem t2071 (C : VCode V) : VA V a2071 := VA_of (envOk C) C.c_rel_Or.1 C.c_rel_Or.2 (O := [a2045, a2048]) (.cons (t2045 C) (.cons (t2048 C) .nil)) (by kernel_rfl)
def v48 : VV := .ls [[.i .i64 1], [.i .i64 2], [.i .i64 3], [.i .i64 10], [.i .i64 11], [.i .i64 12]]
def a2072 : Ans := ⟨n_bits_List, [.i .u64 7182], v48⟩
theorem t2072 (C : VCode V) : VA V a2072 := VA_of (envOk C) C.c_bits_List.1 C.c_bits_List.2 (O := []) .nil (by kernel_rfl)
def a2078 : Ans := ⟨n_bits_List, [.i .u64 12], .ls [[.i .i64 2], [.i .i64 3]]⟩
theorem t2078 (C : VCode V) : VA V a2078 := VA_of (envOk C) C.c_bits_List.1 C.c_bits_List.2 (O := []) .nil (by kernel_rfl)
def a2090 : Ans := ⟨n_reach_graph_grown, [v46, .i .u64 0, .f n_reach_graph_ahead [] []], .i .u64 0⟩
theorem t2090 (C : VCode V) : VA V a2090 := VA_of (envOk C) C.c_reach_graph_grown.1 C.c_reach_graph_grown.2 (O := [a2045, a1959]) (.cons (t2045 C) (.cons (t1959 C) .nil)) (by kernel_rfl)
def a2091 : Ans := ⟨n_bits_List, [.i .u64 6144], .ls [[.i .i64 11], [.i .i64 12]]⟩
theorem t2091 (C : VCode V) : VA V a2091 := VA_of (envOk C) C.c_bits_List.1 C.c_bits_List.2 (O := []) .nil (by kernel_rfl)
def a2101 : Ans := ⟨n_reach_Plus, [v46], v46⟩
theorem t2101 (C : VCode V) : VA V a2101 := VA_of (envOk C) C.c_reach_Plus.1 C.c_reach_Plus.2 (O := [a2045, a2045, a1959, a2072, a2045, a1959, a2078, a2045, a1959, a2090, a2090, a2090, a2090, a2090, a2090, a2090, a2045, a1959, a2091, a2045, a1959, a2090, a2090, a2090, a2090, a2090, a2090, a2090]) (.cons (t2045 C) (.cons (t2045 C) (.cons (t1959 C) (.cons (t2072 C) (.cons (t2045 C) (.cons (t1959 C) (.cons (t2078 C) (.cons (t2045 C) (.cons (t1959 C) (.cons (t2090 C) (.cons (t2090 C) (.cons (t2090 C) (.cons (t2090 C) (.cons (t2090 C) (.cons (t2090 C) (.cons (t2090 C) (.cons (t2045 C) (.cons (t1959 C) (.cons (t2091 C) (.cons (t2045 C) (.cons (t1959 C) (.cons (t2090 C) (.cons (t2090 C) (.cons (t2090 C) (.cons (t2090 C) (.cons (t2090 C) (.cons (t2090 C) (.cons (t2090 C) .nil)))))))))))))))))))))))))))) (by kernel_rfl)
def v49 : VV := .ls [[.i .i64 (-1)], [.i .i64 (-1)], [.i .i64 0], [.i .i64 (-1)], [.i .i64 (-1)], [.i .i64 0], [.i .i64 (-1)]]
def a2102 : Ans := ⟨n_sync_Hb, [v38, v40, v49], v46⟩
theorem t2102 (C : VCode V) : VA V a2102 := VA_of (envOk C) C.c_sync_Hb.1 C.c_sync_Hb.2 (O := [a1091, a1095, a1097, a1949, a2025, a2033, a2071, a2101]) (.cons (t1091 C) (.cons (t1095 C) (.cons (t1097 C) (.cons (t1949 C) (.cons (t2025 C) (.cons (t2033 C) (.cons (t2071 C) (.cons (t2101 C) .nil)))))))) (by kernel_rfl)
def a2106 : Ans := ⟨n_bits_Of, [.ls [[.i .i64 0], [.i .i64 3], [.i .i64 12]]], .i .u64 4105⟩
theorem t2106 (C : VCode V) : VA V a2106 := VA_of (envOk C) C.c_bits_Of.1 C.c_bits_Of.2 (O := []) .nil (by kernel_rfl)
def v50 : VV := .ag [v40, v49, .ls [[.ls [[.i .i64 0], [.i .i64 3], [.i .i64 12]]]]]
def a2108 : Ans := ⟨n_cohe_Is, [v38, v50], .b true⟩
theorem t2108 (C : VCode V) : VA V a2108 := VA_of (envOk C) C.c_cohe_Is.1 C.c_cohe_Is.2 (O := [a2102, a2106]) (.cons (t2102 C) (.cons (t2106 C) .nil)) (by kernel_rfl)
def a2114 : Ans := ⟨n_slices_Index_sint_int, [v40, .i .i64 11], .i .i64 5⟩
theorem t2114 (C : VCode V) : VA V a2114 := VA_of (envOk C) C.c_slices_Index_sint_int.1 C.c_slices_Index_sint_int.2 (O := []) .nil (by kernel_rfl)
def v51 : VV := .ag [.i .i64 4, .ls [[.s ⟨⟨[120]⟩⟩]], .ls [[.ls [[.s ⟨⟨[97]⟩⟩]]], [.ls [[.s ⟨⟨[97]⟩⟩]]]], v37, v40, v49, .ls [[.ls [[.i .i64 0], [.i .i64 3], [.i .i64 12]]]], v46]
def a2117 : Ans := ⟨n_exec_run_atomic, [v51], .b false⟩
theorem t2117 (C : VCode V) : VA V a2117 := VA_of (envOk C) C.c_exec_run_atomic.1 C.c_exec_run_atomic.2 (O := [a2114]) (.cons (t2114 C) .nil) (by kernel_rfl)
def a2118 : Ans := ⟨n_exec_Atomic, [v38, v50], .b false⟩
theorem t2118 (C : VCode V) : VA V a2118 := VA_of (envOk C) C.c_exec_Atomic.1 C.c_exec_Atomic.2 (O := [a2108, a2102, a2117]) (.cons (t2108 C) (.cons (t2102 C) (.cons (t2117 C) .nil))) (by kernel_rfl)
def a2119 : Ans := ⟨n_bits_Of, [.ls [[.i .i64 0], [.i .i64 12], [.i .i64 3]]], .i .u64 4105⟩
theorem t2119 (C : VCode V) : VA V a2119 := VA_of (envOk C) C.c_bits_Of.1 C.c_bits_Of.2 (O := []) .nil (by kernel_rfl)
def v52 : VV := .ag [v40, v49, .ls [[.ls [[.i .i64 0], [.i .i64 12], [.i .i64 3]]]]]
def a2121 : Ans := ⟨n_cohe_Is, [v38, v52], .b true⟩
theorem t2121 (C : VCode V) : VA V a2121 := VA_of (envOk C) C.c_cohe_Is.1 C.c_cohe_Is.2 (O := [a2102, a2119]) (.cons (t2102 C) (.cons (t2119 C) .nil)) (by kernel_rfl)
def v53 : VV := .ag [.i .i64 4, .ls [[.s ⟨⟨[120]⟩⟩]], .ls [[.ls [[.s ⟨⟨[97]⟩⟩]]], [.ls [[.s ⟨⟨[97]⟩⟩]]]], v37, v40, v49, .ls [[.ls [[.i .i64 0], [.i .i64 12], [.i .i64 3]]]], v46]
def a2126 : Ans := ⟨n_exec_run_atomic, [v53], .b false⟩
theorem t2126 (C : VCode V) : VA V a2126 := VA_of (envOk C) C.c_exec_run_atomic.1 C.c_exec_run_atomic.2 (O := []) .nil (by kernel_rfl)
def a2127 : Ans := ⟨n_exec_Atomic, [v38, v52], .b false⟩
theorem t2127 (C : VCode V) : VA V a2127 := VA_of (envOk C) C.c_exec_Atomic.1 C.c_exec_Atomic.2 (O := [a2121, a2102, a2126]) (.cons (t2121 C) (.cons (t2102 C) (.cons (t2126 C) .nil))) (by kernel_rfl)
def v54 : VV := .ls [[.i .i64 0, .i .i64 1], [.i .i64 0, .i .i64 2], [.i .i64 0, .i .i64 3], [.i .i64 0, .i .i64 10], [.i .i64 0, .i .i64 11], [.i .i64 0, .i .i64 12], [.i .i64 1, .i .i64 2], [.i .i64 1, .i .i64 3], [.i .i64 2, .i .i64 3], [.i .i64 10, .i .i64 11], [.i .i64 10, .i .i64 12], [.i .i64 11, .i .i64 12]]
def a2140 : Ans := ⟨n_rel_Pairs, [v46], v54⟩
theorem t2140 (C : VCode V) : VA V a2140 := VA_of (envOk C) C.c_rel_Pairs.1 C.c_rel_Pairs.2 (O := [a2045, a2072, a2078, a2091]) (.cons (t2045 C) (.cons (t2072 C) (.cons (t2078 C) (.cons (t2091 C) .nil)))) (by kernel_rfl)
def v55 : VV := .fp [.i .i64 4, .ls [[.s ⟨⟨[120]⟩⟩]], .ls [[.ls [[.s ⟨⟨[97]⟩⟩]]], [.ls [[.s ⟨⟨[97]⟩⟩]]]], v37] 0
def v56 : VV := .fp [.i .i64 4, .ls [[.s ⟨⟨[120]⟩⟩]], .ls [[.ls [[.s ⟨⟨[97]⟩⟩]]], [.ls [[.s ⟨⟨[97]⟩⟩]]]], v37, v40, v49, .ls [[.ls [[.i .i64 0], [.i .i64 3], [.i .i64 12]]]]] 0
def a2145 : Ans := ⟨n_cohe_Exec_1, [.i .i64 2, v55, v56], .i .i64 0⟩
theorem t2145 (C : VCode V) : VA V a2145 := VA_of (envOk C) C.c_cohe_Exec_1.1 C.c_cohe_Exec_1.2 (O := []) .nil (by kernel_rfl)
def v57 : VV := .ag [.i .i64 (-1), .i .i64 (-1), .i .i64 3, .i .i64 0, .i .i64 0, .i .i64 0, .b false, .b false, .ls []]
def v58 : VV := .ag [.i .i64 0, .i .i64 1, .i .i64 2, .i .i64 0, .i .i64 0, .i .i64 0, .b false, .b false, .ls []]
def a2148 : Ans := ⟨n_cohe_Pair, [v57, v58, .i .i64 0, .i .i64 0], .b true⟩
theorem t2148 (C : VCode V) : VA V a2148 := VA_of (envOk C) C.c_cohe_Pair.1 C.c_cohe_Pair.2 (O := []) .nil (by kernel_rfl)
def a2150 : Ans := ⟨n_cohe_Exec_1, [.i .i64 3, v55, v56], .i .i64 1⟩
theorem t2150 (C : VCode V) : VA V a2150 := VA_of (envOk C) C.c_cohe_Exec_1.1 C.c_cohe_Exec_1.2 (O := []) .nil (by kernel_rfl)
def v59 : VV := .ag [.i .i64 0, .i .i64 2, .i .i64 3, .i .i64 0, .i .i64 0, .i .i64 0, .b true, .b true, .ls [[.i .i64 0]]]
def a2153 : Ans := ⟨n_cohe_Pair, [v57, v59, .i .i64 0, .i .i64 1], .b true⟩
theorem t2153 (C : VCode V) : VA V a2153 := VA_of (envOk C) C.c_cohe_Pair.1 C.c_cohe_Pair.2 (O := []) .nil (by kernel_rfl)
def a2156 : Ans := ⟨n_cohe_Exec_1, [.i .i64 11, v55, v56], .i .i64 0⟩
theorem t2156 (C : VCode V) : VA V a2156 := VA_of (envOk C) C.c_cohe_Exec_1.1 C.c_cohe_Exec_1.2 (O := [a2114]) (.cons (t2114 C) .nil) (by kernel_rfl)
def v60 : VV := .ag [.i .i64 1, .i .i64 10, .i .i64 2, .i .i64 0, .i .i64 0, .i .i64 0, .b false, .b false, .ls []]
def a2159 : Ans := ⟨n_cohe_Pair, [v57, v60, .i .i64 0, .i .i64 0], .b true⟩
theorem t2159 (C : VCode V) : VA V a2159 := VA_of (envOk C) C.c_cohe_Pair.1 C.c_cohe_Pair.2 (O := []) .nil (by kernel_rfl)
def a2161 : Ans := ⟨n_cohe_Exec_1, [.i .i64 12, v55, v56], .i .i64 2⟩
theorem t2161 (C : VCode V) : VA V a2161 := VA_of (envOk C) C.c_cohe_Exec_1.1 C.c_cohe_Exec_1.2 (O := []) .nil (by kernel_rfl)
def v61 : VV := .ag [.i .i64 1, .i .i64 11, .i .i64 3, .i .i64 0, .i .i64 0, .i .i64 0, .b true, .b true, .ls [[.i .i64 0]]]
def a2164 : Ans := ⟨n_cohe_Pair, [v57, v61, .i .i64 0, .i .i64 2], .b true⟩
theorem t2164 (C : VCode V) : VA V a2164 := VA_of (envOk C) C.c_cohe_Pair.1 C.c_cohe_Pair.2 (O := []) .nil (by kernel_rfl)
def a2168 : Ans := ⟨n_cohe_Pair, [v58, v59, .i .i64 0, .i .i64 1], .b true⟩
theorem t2168 (C : VCode V) : VA V a2168 := VA_of (envOk C) C.c_cohe_Pair.1 C.c_cohe_Pair.2 (O := []) .nil (by kernel_rfl)
def a2172 : Ans := ⟨n_cohe_Pair, [v60, v61, .i .i64 0, .i .i64 2], .b true⟩
theorem t2172 (C : VCode V) : VA V a2172 := VA_of (envOk C) C.c_cohe_Pair.1 C.c_cohe_Pair.2 (O := []) .nil (by kernel_rfl)
def a2175 : Ans := ⟨n_exec_Good, [v38, v50], .b false⟩
theorem t2175 (C : VCode V) : VA V a2175 := VA_of (envOk C) C.c_exec_Good.1 C.c_exec_Good.2 (O := [a2108, a2102, a2108, a2102, a2140, a2145, a2148, a2150, a2153, a2156, a2159, a2161, a2164, a2145, a2150, a2145, a2150, a2168, a2156, a2161, a2156, a2161, a2172, a2117]) (.cons (t2108 C) (.cons (t2102 C) (.cons (t2108 C) (.cons (t2102 C) (.cons (t2140 C) (.cons (t2145 C) (.cons (t2148 C) (.cons (t2150 C) (.cons (t2153 C) (.cons (t2156 C) (.cons (t2159 C) (.cons (t2161 C) (.cons (t2164 C) (.cons (t2145 C) (.cons (t2150 C) (.cons (t2145 C) (.cons (t2150 C) (.cons (t2168 C) (.cons (t2156 C) (.cons (t2161 C) (.cons (t2156 C) (.cons (t2161 C) (.cons (t2172 C) (.cons (t2117 C) .nil)))))))))))))))))))))))) (by kernel_rfl)
def v62 : VV := .fp [.i .i64 4, .ls [[.s ⟨⟨[120]⟩⟩]], .ls [[.ls [[.s ⟨⟨[97]⟩⟩]]], [.ls [[.s ⟨⟨[97]⟩⟩]]]], v37, v40, v49, .ls [[.ls [[.i .i64 0], [.i .i64 12], [.i .i64 3]]]]] 0
def a2180 : Ans := ⟨n_cohe_Exec_1, [.i .i64 2, v55, v62], .i .i64 0⟩
theorem t2180 (C : VCode V) : VA V a2180 := VA_of (envOk C) C.c_cohe_Exec_1.1 C.c_cohe_Exec_1.2 (O := []) .nil (by kernel_rfl)
def a2182 : Ans := ⟨n_cohe_Exec_1, [.i .i64 3, v55, v62], .i .i64 2⟩
theorem t2182 (C : VCode V) : VA V a2182 := VA_of (envOk C) C.c_cohe_Exec_1.1 C.c_cohe_Exec_1.2 (O := []) .nil (by kernel_rfl)
def a2185 : Ans := ⟨n_cohe_Pair, [v57, v59, .i .i64 0, .i .i64 2], .b true⟩
theorem t2185 (C : VCode V) : VA V a2185 := VA_of (envOk C) C.c_cohe_Pair.1 C.c_cohe_Pair.2 (O := []) .nil (by kernel_rfl)
def a2188 : Ans := ⟨n_cohe_Exec_1, [.i .i64 11, v55, v62], .i .i64 0⟩
theorem t2188 (C : VCode V) : VA V a2188 := VA_of (envOk C) C.c_cohe_Exec_1.1 C.c_cohe_Exec_1.2 (O := [a2114]) (.cons (t2114 C) .nil) (by kernel_rfl)
def a2191 : Ans := ⟨n_cohe_Exec_1, [.i .i64 12, v55, v62], .i .i64 1⟩
theorem t2191 (C : VCode V) : VA V a2191 := VA_of (envOk C) C.c_cohe_Exec_1.1 C.c_cohe_Exec_1.2 (O := []) .nil (by kernel_rfl)
def a2194 : Ans := ⟨n_cohe_Pair, [v57, v61, .i .i64 0, .i .i64 1], .b true⟩
theorem t2194 (C : VCode V) : VA V a2194 := VA_of (envOk C) C.c_cohe_Pair.1 C.c_cohe_Pair.2 (O := []) .nil (by kernel_rfl)
def a2197 : Ans := ⟨n_cohe_Pair, [v58, v59, .i .i64 0, .i .i64 2], .b true⟩
theorem t2197 (C : VCode V) : VA V a2197 := VA_of (envOk C) C.c_cohe_Pair.1 C.c_cohe_Pair.2 (O := []) .nil (by kernel_rfl)
def a2200 : Ans := ⟨n_cohe_Pair, [v60, v61, .i .i64 0, .i .i64 1], .b true⟩
theorem t2200 (C : VCode V) : VA V a2200 := VA_of (envOk C) C.c_cohe_Pair.1 C.c_cohe_Pair.2 (O := []) .nil (by kernel_rfl)
def a2203 : Ans := ⟨n_exec_Good, [v38, v52], .b false⟩
theorem t2203 (C : VCode V) : VA V a2203 := VA_of (envOk C) C.c_exec_Good.1 C.c_exec_Good.2 (O := [a2121, a2102, a2121, a2102, a2140, a2180, a2148, a2182, a2185, a2188, a2159, a2191, a2194, a2180, a2182, a2180, a2182, a2197, a2188, a2191, a2188, a2191, a2200, a2126]) (.cons (t2121 C) (.cons (t2102 C) (.cons (t2121 C) (.cons (t2102 C) (.cons (t2140 C) (.cons (t2180 C) (.cons (t2148 C) (.cons (t2182 C) (.cons (t2185 C) (.cons (t2188 C) (.cons (t2159 C) (.cons (t2191 C) (.cons (t2194 C) (.cons (t2180 C) (.cons (t2182 C) (.cons (t2180 C) (.cons (t2182 C) (.cons (t2197 C) (.cons (t2188 C) (.cons (t2191 C) (.cons (t2188 C) (.cons (t2191 C) (.cons (t2200 C) (.cons (t2126 C) .nil)))))))))))))))))))))))) (by kernel_rfl)
def v63 : VV := .ls [[.i .i64 (-1)], [.i .i64 (-1)], [.i .i64 0], [.i .i64 (-1)], [.i .i64 (-1)], [.i .i64 3], [.i .i64 (-1)]]
def a2227 : Ans := ⟨n_sync_Hb, [v38, v40, v63], v46⟩
theorem t2227 (C : VCode V) : VA V a2227 := VA_of (envOk C) C.c_sync_Hb.1 C.c_sync_Hb.2 (O := [a1091, a1095, a1097, a1949, a2025, a2033, a2033, a2071, a2101]) (.cons (t1091 C) (.cons (t1095 C) (.cons (t1097 C) (.cons (t1949 C) (.cons (t2025 C) (.cons (t2033 C) (.cons (t2033 C) (.cons (t2071 C) (.cons (t2101 C) .nil))))))))) (by kernel_rfl)
def v64 : VV := .ag [v40, v63, .ls [[.ls [[.i .i64 0], [.i .i64 3], [.i .i64 12]]]]]
def a2229 : Ans := ⟨n_cohe_Is, [v38, v64], .b true⟩
theorem t2229 (C : VCode V) : VA V a2229 := VA_of (envOk C) C.c_cohe_Is.1 C.c_cohe_Is.2 (O := [a2227, a2106]) (.cons (t2227 C) (.cons (t2106 C) .nil)) (by kernel_rfl)
def v65 : VV := .ag [.i .i64 4, .ls [[.s ⟨⟨[120]⟩⟩]], .ls [[.ls [[.s ⟨⟨[97]⟩⟩]]], [.ls [[.s ⟨⟨[97]⟩⟩]]]], v37, v40, v63, .ls [[.ls [[.i .i64 0], [.i .i64 3], [.i .i64 12]]]], v46]
def a2233 : Ans := ⟨n_exec_run_atomic, [v65], .b true⟩
theorem t2233 (C : VCode V) : VA V a2233 := VA_of (envOk C) C.c_exec_run_atomic.1 C.c_exec_run_atomic.2 (O := [a2114]) (.cons (t2114 C) .nil) (by kernel_rfl)
def a2234 : Ans := ⟨n_exec_Atomic, [v38, v64], .b true⟩
theorem t2234 (C : VCode V) : VA V a2234 := VA_of (envOk C) C.c_exec_Atomic.1 C.c_exec_Atomic.2 (O := [a2229, a2227, a2233]) (.cons (t2229 C) (.cons (t2227 C) (.cons (t2233 C) .nil))) (by kernel_rfl)
def v66 : VV := .fp [.i .i64 4, .ls [[.s ⟨⟨[120]⟩⟩]], .ls [[.ls [[.s ⟨⟨[97]⟩⟩]]], [.ls [[.s ⟨⟨[97]⟩⟩]]]], v37, v40, v63, .ls [[.ls [[.i .i64 0], [.i .i64 3], [.i .i64 12]]]]] 0
def a2239 : Ans := ⟨n_cohe_Exec_1, [.i .i64 2, v55, v66], .i .i64 0⟩
theorem t2239 (C : VCode V) : VA V a2239 := VA_of (envOk C) C.c_cohe_Exec_1.1 C.c_cohe_Exec_1.2 (O := []) .nil (by kernel_rfl)
def a2241 : Ans := ⟨n_cohe_Exec_1, [.i .i64 3, v55, v66], .i .i64 1⟩
theorem t2241 (C : VCode V) : VA V a2241 := VA_of (envOk C) C.c_cohe_Exec_1.1 C.c_cohe_Exec_1.2 (O := []) .nil (by kernel_rfl)
def a2244 : Ans := ⟨n_cohe_Exec_1, [.i .i64 11, v55, v66], .i .i64 1⟩
theorem t2244 (C : VCode V) : VA V a2244 := VA_of (envOk C) C.c_cohe_Exec_1.1 C.c_cohe_Exec_1.2 (O := [a2114]) (.cons (t2114 C) .nil) (by kernel_rfl)
def a2247 : Ans := ⟨n_cohe_Pair, [v57, v60, .i .i64 0, .i .i64 1], .b true⟩
theorem t2247 (C : VCode V) : VA V a2247 := VA_of (envOk C) C.c_cohe_Pair.1 C.c_cohe_Pair.2 (O := []) .nil (by kernel_rfl)
def a2249 : Ans := ⟨n_cohe_Exec_1, [.i .i64 12, v55, v66], .i .i64 2⟩
theorem t2249 (C : VCode V) : VA V a2249 := VA_of (envOk C) C.c_cohe_Exec_1.1 C.c_cohe_Exec_1.2 (O := []) .nil (by kernel_rfl)
def a2257 : Ans := ⟨n_exec_run_behind, [v65, .i .i64 0], .i .u64 4104⟩
theorem t2257 (C : VCode V) : VA V a2257 := VA_of (envOk C) C.c_exec_run_behind.1 C.c_exec_run_behind.2 (O := []) .nil (by kernel_rfl)
def a2272 : Ans := ⟨n_exec_run_behind, [v65, .i .i64 3], .i .u64 4096⟩
theorem t2272 (C : VCode V) : VA V a2272 := VA_of (envOk C) C.c_exec_run_behind.1 C.c_exec_run_behind.2 (O := []) .nil (by kernel_rfl)
def a2288 : Ans := ⟨n_slices_Index_sint_int, [v40, .i .i64 12], .i .i64 6⟩
theorem t2288 (C : VCode V) : VA V a2288 := VA_of (envOk C) C.c_slices_Index_sint_int.1 C.c_slices_Index_sint_int.2 (O := []) .nil (by kernel_rfl)
def v67 : VV := .ls [[.i .u64 4108], [.i .u64 0], [.i .u64 4104], [.i .u64 6144], [.i .u64 0], [.i .u64 0], [.i .u64 0], [.i .u64 0], [.i .u64 0], [.i .u64 0], [.i .u64 0], [.i .u64 4096], [.i .u64 0], [.i .u64 0], [.i .u64 0], [.i .u64 0], [.i .u64 0], [.i .u64 0], [.i .u64 0]]
def a2298 : Ans := ⟨n_rel_May, [v67], .b true⟩
theorem t2298 (C : VCode V) : VA V a2298 := VA_of (envOk C) C.c_rel_May.1 C.c_rel_May.2 (O := [a1959]) (.cons (t1959 C) .nil) (by kernel_rfl)
def a2315 : Ans := ⟨n_reach_graph_grown, [v67, .i .u64 0, .f n_reach_graph_ahead [] []], .i .u64 0⟩
theorem t2315 (C : VCode V) : VA V a2315 := VA_of (envOk C) C.c_reach_graph_grown.1 C.c_reach_graph_grown.2 (O := [a2298, a1959]) (.cons (t2298 C) (.cons (t1959 C) .nil)) (by kernel_rfl)
def v68 : VV := .ls [[.i .u64 6156], [.i .u64 0], [.i .u64 6152], [.i .u64 6144], [.i .u64 0], [.i .u64 0], [.i .u64 0], [.i .u64 0], [.i .u64 0], [.i .u64 0], [.i .u64 0], [.i .u64 4096], [.i .u64 0], [.i .u64 0], [.i .u64 0], [.i .u64 0], [.i .u64 0], [.i .u64 0], [.i .u64 0]]
def a2333 : Ans := ⟨n_reach_Plus, [v67], v68⟩
theorem t2333 (C : VCode V) : VA V a2333 := VA_of (envOk C) C.c_reach_Plus.1 C.c_reach_Plus.2 (O := [a2298, a2298, a1959, a2298, a1959, a2315, a2298, a1959, a2298, a1959, a2298, a1959, a2091, a2315, a2315, a2315, a2315, a2315, a2315, a2315, a2298, a1959, a2315, a2315, a2315, a2315, a2315, a2315, a2315]) (.cons (t2298 C) (.cons (t2298 C) (.cons (t1959 C) (.cons (t2298 C) (.cons (t1959 C) (.cons (t2315 C) (.cons (t2298 C) (.cons (t1959 C) (.cons (t2298 C) (.cons (t1959 C) (.cons (t2298 C) (.cons (t1959 C) (.cons (t2091 C) (.cons (t2315 C) (.cons (t2315 C) (.cons (t2315 C) (.cons (t2315 C) (.cons (t2315 C) (.cons (t2315 C) (.cons (t2315 C) (.cons (t2298 C) (.cons (t1959 C) (.cons (t2315 C) (.cons (t2315 C) (.cons (t2315 C) (.cons (t2315 C) (.cons (t2315 C) (.cons (t2315 C) (.cons (t2315 C) .nil))))))))))))))))))))))))))))) (by kernel_rfl)
def v69 : VV := .ls [[.i .u64 7182], [.i .u64 12], [.i .u64 6152], [.i .u64 6144], [.i .u64 0], [.i .u64 0], [.i .u64 0], [.i .u64 0], [.i .u64 0], [.i .u64 0], [.i .u64 6144], [.i .u64 4096], [.i .u64 0], [.i .u64 0], [.i .u64 0], [.i .u64 0], [.i .u64 0], [.i .u64 0], [.i .u64 0]]
def a2364 : Ans := ⟨n_rel_Or, [v46, v68], v69⟩
theorem t2364 (C : VCode V) : VA V a2364 := VA_of (envOk C) C.c_rel_Or.1 C.c_rel_Or.2 (O := [a2045, a1959]) (.cons (t2045 C) (.cons (t1959 C) .nil)) (by kernel_rfl)
def v70 : VV := .ls [[.i .u64 0], [.i .u64 1], [.i .u64 3], [.i .u64 7], [.i .u64 0], [.i .u64 0], [.i .u64 0], [.i .u64 0], [.i .u64 0], [.i .u64 0], [.i .u64 1], [.i .u64 1025], [.i .u64 3073], [.i .u64 0], [.i .u64 0], [.i .u64 0], [.i .u64 0], [.i .u64 0], [.i .u64 0]]
def a2367 : Ans := ⟨n_rel_Back, [v46], v70⟩
theorem t2367 (C : VCode V) : VA V a2367 := VA_of (envOk C) C.c_rel_Back.1 C.c_rel_Back.2 (O := [a2045, a2140]) (.cons (t2045 C) (.cons (t2140 C) .nil)) (by kernel_rfl)
def a2379 : Ans := ⟨n_reach_graph_grown, [v47, .i .u64 0, .f n_reach_graph_ahead [] []], .i .u64 0⟩
theorem t2379 (C : VCode V) : VA V a2379 := VA_of (envOk C) C.c_reach_graph_grown.1 C.c_reach_graph_grown.2 (O := [a2048, a1959]) (.cons (t2048 C) (.cons (t1959 C) .nil)) (by kernel_rfl)
def a2383 : Ans := ⟨n_reach_Acyclic, [v47], .b true⟩
theorem t2383 (C : VCode V) : VA V a2383 := VA_of (envOk C) C.c_reach_Acyclic.1 C.c_reach_Acyclic.2 (O := [a2048, a2379, a2379, a2379, a2379, a2379, a2379, a2379, a2379, a2379, a2379, a2379, a2379, a2379, a2379, a2379, a2379, a2379, a2379, a2379, a2048]) (.cons (t2048 C) (.cons (t2379 C) (.cons (t2379 C) (.cons (t2379 C) (.cons (t2379 C) (.cons (t2379 C) (.cons (t2379 C) (.cons (t2379 C) (.cons (t2379 C) (.cons (t2379 C) (.cons (t2379 C) (.cons (t2379 C) (.cons (t2379 C) (.cons (t2379 C) (.cons (t2379 C) (.cons (t2379 C) (.cons (t2379 C) (.cons (t2379 C) (.cons (t2379 C) (.cons (t2379 C) (.cons (t2048 C) .nil))))))))))))))))))))) (by kernel_rfl)
def a2384 : Ans := ⟨n_exec_Good, [v38, v64], .b true⟩
theorem t2384 (C : VCode V) : VA V a2384 := VA_of (envOk C) C.c_exec_Good.1 C.c_exec_Good.2 (O := [a2229, a2227, a2229, a2227, a2140, a2239, a2148, a2241, a2153, a2244, a2247, a2249, a2164, a2239, a2241, a2239, a2241, a2168, a2244, a2249, a2244, a2249, a2233, a2257, a2257, a2272, a2114, a2272, a2288, a2333, a2364, a2367, a2383]) (.cons (t2229 C) (.cons (t2227 C) (.cons (t2229 C) (.cons (t2227 C) (.cons (t2140 C) (.cons (t2239 C) (.cons (t2148 C) (.cons (t2241 C) (.cons (t2153 C) (.cons (t2244 C) (.cons (t2247 C) (.cons (t2249 C) (.cons (t2164 C) (.cons (t2239 C) (.cons (t2241 C) (.cons (t2239 C) (.cons (t2241 C) (.cons (t2168 C) (.cons (t2244 C) (.cons (t2249 C) (.cons (t2244 C) (.cons (t2249 C) (.cons (t2233 C) (.cons (t2257 C) (.cons (t2257 C) (.cons (t2272 C) (.cons (t2114 C) (.cons (t2272 C) (.cons (t2288 C) (.cons (t2333 C) (.cons (t2364 C) (.cons (t2367 C) (.cons (t2383 C) .nil))))))))))))))))))))))))))))))))) (by kernel_rfl)
def a2397 : Ans := ⟨n_witheref17_Where, [v40, .i .i64 12], .i .i64 6⟩
theorem t2397 (C : VCode V) : VA V a2397 := VA_of (envOk C) C.c_witheref17_Where.1 C.c_witheref17_Where.2 (O := []) .nil (by kernel_rfl)
def a2399 : Ans := ⟨n_witheref17_ExecForm, [v38, v64], .b true⟩
theorem t2399 (C : VCode V) : VA V a2399 := VA_of (envOk C) C.c_witheref17_ExecForm.1 C.c_witheref17_ExecForm.2 (O := [a2397]) (.cons (t2397 C) .nil) (by kernel_rfl)
end
end Go.AM
