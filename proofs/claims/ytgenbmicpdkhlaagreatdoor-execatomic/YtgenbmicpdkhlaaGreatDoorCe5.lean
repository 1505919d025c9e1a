/-
  Certificates: what calls answer, each carried out by the kernel.
-/
import Derived.Test.YtgenbmicpdkhlaaGreatDoorCeE
import Derived.KernelRfl
import Derived.Test.YtgenbmicpdkhlaaGreatDoorCe0
import Derived.Test.YtgenbmicpdkhlaaGreatDoorCe1
import Derived.Test.YtgenbmicpdkhlaaGreatDoorCe2
set_option linter.unusedVariables false
set_option linter.unusedSimpArgs false
set_option linter.unusedSectionVars false
set_option linter.unnecessarySimpa false
set_option maxRecDepth 1000000
set_option maxHeartbeats 4000000
namespace Go.AM
section
variable {V : VProg}
def v119 : VV := .ls [[v71], [v33]]
def v120 : VV := .ag [.s ⟨⟨[97]⟩⟩, .i .i64 4, .ls [[.s ⟨⟨[120]⟩⟩, .i .i64 0]], v119, .i .i64 1, .i .i64 1, .i .i64 0, .s ⟨⟨[120]⟩⟩, .i .i64 0, .ls []]
def v121 : VV := .ls [[.i .i64 (-1), .i .i64 (-1), .i .i64 3, .i .i64 0, .i .i64 0, .i .i64 0, .b false, .b false, .ls []], [.i .i64 0, .i .i64 (-1), .i .i64 1, .i .i64 0, .i .i64 0, .i .i64 0, .b false, .b false, .ls []], [.i .i64 0, .i .i64 1, .i .i64 2, .i .i64 0, .i .i64 0, .i .i64 0, .b false, .b false, .ls []], [.i .i64 0, .i .i64 2, .i .i64 3, .i .i64 0, .i .i64 0, .i .i64 1, .b true, .b true, .ls [[.i .i64 0]]], [.i .i64 0, .i .i64 1, .i .i64 2, .i .i64 0, .i .i64 0, .i .i64 1, .b false, .b false, .ls []], [.i .i64 0, .i .i64 4, .i .i64 3, .i .i64 0, .i .i64 0, .i .i64 2, .b true, .b true, .ls [[.i .i64 1]]], [.i .i64 0, .i .i64 1, .i .i64 2, .i .i64 0, .i .i64 0, .i .i64 2, .b false, .b false, .ls []], [.i .i64 0, .i .i64 6, .i .i64 3, .i .i64 0, .i .i64 0, .i .i64 3, .b true, .b true, .ls [[.i .i64 2]]], [.i .i64 0, .i .i64 1, .i .i64 2, .i .i64 0, .i .i64 0, .i .i64 3, .b false, .b false, .ls []], [.i .i64 0, .i .i64 8, .i .i64 3, .i .i64 0, .i .i64 0, .i .i64 0, .b true, .b true, .ls [[.i .i64 3]]], [.i .i64 1, .i .i64 (-1), .i .i64 1, .i .i64 0, .i .i64 0, .i .i64 0, .b false, .b false, .ls []], [.i .i64 1, .i .i64 10, .i .i64 2, .i .i64 0, .i .i64 0, .i .i64 0, .b false, .b false, .ls []], [.i .i64 1, .i .i64 11, .i .i64 3, .i .i64 0, .i .i64 0, .i .i64 0, .b true, .b true, .ls [[.i .i64 0]]], [.i .i64 1, .i .i64 10, .i .i64 2, .i .i64 0, .i .i64 0, .i .i64 1, .b false, .b false, .ls []], [.i .i64 1, .i .i64 13, .i .i64 3, .i .i64 0, .i .i64 0, .i .i64 1, .b true, .b true, .ls [[.i .i64 1]]], [.i .i64 1, .i .i64 10, .i .i64 2, .i .i64 0, .i .i64 0, .i .i64 2, .b false, .b false, .ls []], [.i .i64 1, .i .i64 15, .i .i64 3, .i .i64 0, .i .i64 0, .i .i64 2, .b true, .b true, .ls [[.i .i64 2]]], [.i .i64 1, .i .i64 10, .i .i64 2, .i .i64 0, .i .i64 0, .i .i64 3, .b false, .b false, .ls []], [.i .i64 1, .i .i64 17, .i .i64 3, .i .i64 0, .i .i64 0, .i .i64 3, .b true, .b true, .ls [[.i .i64 3]]]]
def v122 : VV := .ag [.i .i64 4, .ls [[.s ⟨⟨[120]⟩⟩]], .ls [[.ls [[.s ⟨⟨[97]⟩⟩]]], [.ls [[.s ⟨⟨[97]⟩⟩]]]], v121]
def v123 : VV := .tu [v122, .b true]
def a5333 : Ans := ⟨n_withemade_Tree, [v120], v123⟩
theorem t5333 (C : VCode V) : VA V a5333 := VA_of (envOk C) C.c_withemade_Tree.1 C.c_withemade_Tree.2 (O := [a27, a9, a27, a2403, a27, a1000, a1002, a2406, a1005, a2408, a2408, a2408, a2408, a1009, a1009, a1009, a1009]) (.cons (t27 C) (.cons (t9 C) (.cons (t27 C) (.cons (t2403 C) (.cons (t27 C) (.cons (t1000 C) (.cons (t1002 C) (.cons (t2406 C) (.cons (t1005 C) (.cons (t2408 C) (.cons (t2408 C) (.cons (t2408 C) (.cons (t2408 C) (.cons (t1009 C) (.cons (t1009 C) (.cons (t1009 C) (.cons (t1009 C) .nil))))))))))))))))) (by kernel_rfl)
def a5409 : Ans := ⟨n_lts_May, [v122], .b true⟩
theorem t5409 (C : VCode V) : VA V a5409 := VA_of (envOk C) C.c_lts_May.1 C.c_lts_May.2 (O := []) .nil (by kernel_rfl)
def v124 : VV := .ag [.i .i64 4, .ls [[.s ⟨⟨[120]⟩⟩]], .ls [[.ls [[.s ⟨⟨[97]⟩⟩]]], [.ls [[.s ⟨⟨[97]⟩⟩]]]], v121, v41, v42]
def v125 : VV := .f n_tree_deep_before [v124] []
def a6133 : Ans := ⟨n_tree_deep_rows, [v124, v125], v45⟩
theorem t6133 (C : VCode V) : VA V a6133 := VA_of (envOk C) C.c_tree_deep_rows.1 C.c_tree_deep_rows.2 (O := []) .nil (by kernel_rfl)
def a6134 : Ans := ⟨n_tree_Po, [v122], v45⟩
theorem t6134 (C : VCode V) : VA V a6134 := VA_of (envOk C) C.c_tree_Po.1 C.c_tree_Po.2 (O := [a5409, a6133]) (.cons (t5409 C) (.cons (t6133 C) .nil)) (by kernel_rfl)
def a6146 : Ans := ⟨n_sync_Hb, [v122, v40, v49], v46⟩
theorem t6146 (C : VCode V) : VA V a6146 := VA_of (envOk C) C.c_sync_Hb.1 C.c_sync_Hb.2 (O := [a5409, a1095, a1097, a6134, a2025, a2033, a2071, a2101]) (.cons (t5409 C) (.cons (t1095 C) (.cons (t1097 C) (.cons (t6134 C) (.cons (t2025 C) (.cons (t2033 C) (.cons (t2071 C) (.cons (t2101 C) .nil)))))))) (by kernel_rfl)
def a6148 : Ans := ⟨n_cohe_Is, [v122, v50], .b true⟩
theorem t6148 (C : VCode V) : VA V a6148 := VA_of (envOk C) C.c_cohe_Is.1 C.c_cohe_Is.2 (O := [a6146, a2106]) (.cons (t6146 C) (.cons (t2106 C) .nil)) (by kernel_rfl)
def v126 : VV := .ag [.i .i64 4, .ls [[.s ⟨⟨[120]⟩⟩]], .ls [[.ls [[.s ⟨⟨[97]⟩⟩]]], [.ls [[.s ⟨⟨[97]⟩⟩]]]], v121, v40, v49, .ls [[.ls [[.i .i64 0], [.i .i64 3], [.i .i64 12]]]], v46]
def a6152 : Ans := ⟨n_exec_run_atomic, [v126], .b false⟩
theorem t6152 (C : VCode V) : VA V a6152 := VA_of (envOk C) C.c_exec_run_atomic.1 C.c_exec_run_atomic.2 (O := [a2114]) (.cons (t2114 C) .nil) (by kernel_rfl)
def a6153 : Ans := ⟨n_exec_Atomic, [v122, v50], .b false⟩
theorem t6153 (C : VCode V) : VA V a6153 := VA_of (envOk C) C.c_exec_Atomic.1 C.c_exec_Atomic.2 (O := [a6148, a6146, a6152]) (.cons (t6148 C) (.cons (t6146 C) (.cons (t6152 C) .nil))) (by kernel_rfl)
def a6155 : Ans := ⟨n_cohe_Is, [v122, v52], .b true⟩
theorem t6155 (C : VCode V) : VA V a6155 := VA_of (envOk C) C.c_cohe_Is.1 C.c_cohe_Is.2 (O := [a6146, a2119]) (.cons (t6146 C) (.cons (t2119 C) .nil)) (by kernel_rfl)
def v127 : VV := .ag [.i .i64 4, .ls [[.s ⟨⟨[120]⟩⟩]], .ls [[.ls [[.s ⟨⟨[97]⟩⟩]]], [.ls [[.s ⟨⟨[97]⟩⟩]]]], v121, v40, v49, .ls [[.ls [[.i .i64 0], [.i .i64 12], [.i .i64 3]]]], v46]
def a6158 : Ans := ⟨n_exec_run_atomic, [v127], .b false⟩
theorem t6158 (C : VCode V) : VA V a6158 := VA_of (envOk C) C.c_exec_run_atomic.1 C.c_exec_run_atomic.2 (O := []) .nil (by kernel_rfl)
def a6159 : Ans := ⟨n_exec_Atomic, [v122, v52], .b false⟩
theorem t6159 (C : VCode V) : VA V a6159 := VA_of (envOk C) C.c_exec_Atomic.1 C.c_exec_Atomic.2 (O := [a6155, a6146, a6158]) (.cons (t6155 C) (.cons (t6146 C) (.cons (t6158 C) .nil))) (by kernel_rfl)
def v128 : VV := .fp [.i .i64 4, .ls [[.s ⟨⟨[120]⟩⟩]], .ls [[.ls [[.s ⟨⟨[97]⟩⟩]]], [.ls [[.s ⟨⟨[97]⟩⟩]]]], v121] 0
def v129 : VV := .fp [.i .i64 4, .ls [[.s ⟨⟨[120]⟩⟩]], .ls [[.ls [[.s ⟨⟨[97]⟩⟩]]], [.ls [[.s ⟨⟨[97]⟩⟩]]]], v121, v40, v49, .ls [[.ls [[.i .i64 0], [.i .i64 3], [.i .i64 12]]]]] 0
def a6164 : Ans := ⟨n_cohe_Exec_1, [.i .i64 2, v128, v129], .i .i64 0⟩
theorem t6164 (C : VCode V) : VA V a6164 := VA_of (envOk C) C.c_cohe_Exec_1.1 C.c_cohe_Exec_1.2 (O := []) .nil (by kernel_rfl)
def a6166 : Ans := ⟨n_cohe_Exec_1, [.i .i64 3, v128, v129], .i .i64 1⟩
theorem t6166 (C : VCode V) : VA V a6166 := VA_of (envOk C) C.c_cohe_Exec_1.1 C.c_cohe_Exec_1.2 (O := []) .nil (by kernel_rfl)
def v130 : VV := .ag [.i .i64 0, .i .i64 2, .i .i64 3, .i .i64 0, .i .i64 0, .i .i64 1, .b true, .b true, .ls [[.i .i64 0]]]
def a6169 : Ans := ⟨n_cohe_Pair, [v57, v130, .i .i64 0, .i .i64 1], .b true⟩
theorem t6169 (C : VCode V) : VA V a6169 := VA_of (envOk C) C.c_cohe_Pair.1 C.c_cohe_Pair.2 (O := []) .nil (by kernel_rfl)
def a6172 : Ans := ⟨n_cohe_Exec_1, [.i .i64 11, v128, v129], .i .i64 0⟩
theorem t6172 (C : VCode V) : VA V a6172 := VA_of (envOk C) C.c_cohe_Exec_1.1 C.c_cohe_Exec_1.2 (O := [a2114]) (.cons (t2114 C) .nil) (by kernel_rfl)
def a6174 : Ans := ⟨n_cohe_Exec_1, [.i .i64 12, v128, v129], .i .i64 2⟩
theorem t6174 (C : VCode V) : VA V a6174 := VA_of (envOk C) C.c_cohe_Exec_1.1 C.c_cohe_Exec_1.2 (O := []) .nil (by kernel_rfl)
def a6177 : Ans := ⟨n_cohe_Pair, [v58, v130, .i .i64 0, .i .i64 1], .b true⟩
theorem t6177 (C : VCode V) : VA V a6177 := VA_of (envOk C) C.c_cohe_Pair.1 C.c_cohe_Pair.2 (O := []) .nil (by kernel_rfl)
def a6180 : Ans := ⟨n_exec_Good, [v122, v50], .b false⟩
theorem t6180 (C : VCode V) : VA V a6180 := VA_of (envOk C) C.c_exec_Good.1 C.c_exec_Good.2 (O := [a6148, a6146, a6148, a6146, a2140, a6164, a2148, a6166, a6169, a6172, a2159, a6174, a2164, a6164, a6166, a6164, a6166, a6177, a6172, a6174, a6172, a6174, a2172, a6152]) (.cons (t6148 C) (.cons (t6146 C) (.cons (t6148 C) (.cons (t6146 C) (.cons (t2140 C) (.cons (t6164 C) (.cons (t2148 C) (.cons (t6166 C) (.cons (t6169 C) (.cons (t6172 C) (.cons (t2159 C) (.cons (t6174 C) (.cons (t2164 C) (.cons (t6164 C) (.cons (t6166 C) (.cons (t6164 C) (.cons (t6166 C) (.cons (t6177 C) (.cons (t6172 C) (.cons (t6174 C) (.cons (t6172 C) (.cons (t6174 C) (.cons (t2172 C) (.cons (t6152 C) .nil)))))))))))))))))))))))) (by kernel_rfl)
def v131 : VV := .fp [.i .i64 4, .ls [[.s ⟨⟨[120]⟩⟩]], .ls [[.ls [[.s ⟨⟨[97]⟩⟩]]], [.ls [[.s ⟨⟨[97]⟩⟩]]]], v121, v40, v49, .ls [[.ls [[.i .i64 0], [.i .i64 12], [.i .i64 3]]]]] 0
def a6185 : Ans := ⟨n_cohe_Exec_1, [.i .i64 2, v128, v131], .i .i64 0⟩
theorem t6185 (C : VCode V) : VA V a6185 := VA_of (envOk C) C.c_cohe_Exec_1.1 C.c_cohe_Exec_1.2 (O := []) .nil (by kernel_rfl)
def a6187 : Ans := ⟨n_cohe_Exec_1, [.i .i64 3, v128, v131], .i .i64 2⟩
theorem t6187 (C : VCode V) : VA V a6187 := VA_of (envOk C) C.c_cohe_Exec_1.1 C.c_cohe_Exec_1.2 (O := []) .nil (by kernel_rfl)
def a6190 : Ans := ⟨n_cohe_Pair, [v57, v130, .i .i64 0, .i .i64 2], .b true⟩
theorem t6190 (C : VCode V) : VA V a6190 := VA_of (envOk C) C.c_cohe_Pair.1 C.c_cohe_Pair.2 (O := []) .nil (by kernel_rfl)
def a6193 : Ans := ⟨n_cohe_Exec_1, [.i .i64 11, v128, v131], .i .i64 0⟩
theorem t6193 (C : VCode V) : VA V a6193 := VA_of (envOk C) C.c_cohe_Exec_1.1 C.c_cohe_Exec_1.2 (O := [a2114]) (.cons (t2114 C) .nil) (by kernel_rfl)
def a6195 : Ans := ⟨n_cohe_Exec_1, [.i .i64 12, v128, v131], .i .i64 1⟩
theorem t6195 (C : VCode V) : VA V a6195 := VA_of (envOk C) C.c_cohe_Exec_1.1 C.c_cohe_Exec_1.2 (O := []) .nil (by kernel_rfl)
def a6198 : Ans := ⟨n_cohe_Pair, [v58, v130, .i .i64 0, .i .i64 2], .b true⟩
theorem t6198 (C : VCode V) : VA V a6198 := VA_of (envOk C) C.c_cohe_Pair.1 C.c_cohe_Pair.2 (O := []) .nil (by kernel_rfl)
def a6201 : Ans := ⟨n_exec_Good, [v122, v52], .b false⟩
theorem t6201 (C : VCode V) : VA V a6201 := VA_of (envOk C) C.c_exec_Good.1 C.c_exec_Good.2 (O := [a6155, a6146, a6155, a6146, a2140, a6185, a2148, a6187, a6190, a6193, a2159, a6195, a2194, a6185, a6187, a6185, a6187, a6198, a6193, a6195, a6193, a6195, a2200, a6158]) (.cons (t6155 C) (.cons (t6146 C) (.cons (t6155 C) (.cons (t6146 C) (.cons (t2140 C) (.cons (t6185 C) (.cons (t2148 C) (.cons (t6187 C) (.cons (t6190 C) (.cons (t6193 C) (.cons (t2159 C) (.cons (t6195 C) (.cons (t2194 C) (.cons (t6185 C) (.cons (t6187 C) (.cons (t6185 C) (.cons (t6187 C) (.cons (t6198 C) (.cons (t6193 C) (.cons (t6195 C) (.cons (t6193 C) (.cons (t6195 C) (.cons (t2200 C) (.cons (t6158 C) .nil)))))))))))))))))))))))) (by kernel_rfl)
def v132 : VV := .ls [[.i .i64 0], [.i .i64 1], [.i .i64 2], [.i .i64 3], [.i .i64 10], [.i .i64 13], [.i .i64 14]]
def a6202 : Ans := ⟨n_bits_Of, [v132], .i .u64 25615⟩
theorem t6202 (C : VCode V) : VA V a6202 := VA_of (envOk C) C.c_bits_Of.1 C.c_bits_Of.2 (O := []) .nil (by kernel_rfl)
def v133 : VV := .ls [[.i .u64 25614], [.i .u64 12], [.i .u64 8], [.i .u64 0], [.i .u64 0], [.i .u64 0], [.i .u64 0], [.i .u64 0], [.i .u64 0], [.i .u64 0], [.i .u64 24576], [.i .u64 0], [.i .u64 0], [.i .u64 16384], [.i .u64 0], [.i .u64 0], [.i .u64 0], [.i .u64 0], [.i .u64 0]]
def a6250 : Ans := ⟨n_rel_Keep, [v45, .i .u64 25615], v133⟩
theorem t6250 (C : VCode V) : VA V a6250 := VA_of (envOk C) C.c_rel_Keep.1 C.c_rel_Keep.2 (O := [a1986]) (.cons (t1986 C) .nil) (by kernel_rfl)
def a6258 : Ans := ⟨n_bits_List, [.i .u64 25615], v132⟩
theorem t6258 (C : VCode V) : VA V a6258 := VA_of (envOk C) C.c_bits_List.1 C.c_bits_List.2 (O := []) .nil (by kernel_rfl)
def a6280 : Ans := ⟨n_rel_May, [v133], .b true⟩
theorem t6280 (C : VCode V) : VA V a6280 := VA_of (envOk C) C.c_rel_May.1 C.c_rel_May.2 (O := [a1959]) (.cons (t1959 C) .nil) (by kernel_rfl)
def a6303 : Ans := ⟨n_rel_Or, [v133, v47], v133⟩
theorem t6303 (C : VCode V) : VA V a6303 := VA_of (envOk C) C.c_rel_Or.1 C.c_rel_Or.2 (O := [a6280, a2048]) (.cons (t6280 C) (.cons (t2048 C) .nil)) (by kernel_rfl)
def v134 : VV := .ls [[.i .i64 1], [.i .i64 2], [.i .i64 3], [.i .i64 10], [.i .i64 13], [.i .i64 14]]
def a6304 : Ans := ⟨n_bits_List, [.i .u64 25614], v134⟩
theorem t6304 (C : VCode V) : VA V a6304 := VA_of (envOk C) C.c_bits_List.1 C.c_bits_List.2 (O := []) .nil (by kernel_rfl)
def a6320 : Ans := ⟨n_reach_graph_grown, [v133, .i .u64 0, .f n_reach_graph_ahead [] []], .i .u64 0⟩
theorem t6320 (C : VCode V) : VA V a6320 := VA_of (envOk C) C.c_reach_graph_grown.1 C.c_reach_graph_grown.2 (O := [a6280, a1959]) (.cons (t6280 C) (.cons (t1959 C) .nil)) (by kernel_rfl)
def a6321 : Ans := ⟨n_bits_List, [.i .u64 24576], .ls [[.i .i64 13], [.i .i64 14]]⟩
theorem t6321 (C : VCode V) : VA V a6321 := VA_of (envOk C) C.c_bits_List.1 C.c_bits_List.2 (O := []) .nil (by kernel_rfl)
def a6331 : Ans := ⟨n_reach_Plus, [v133], v133⟩
theorem t6331 (C : VCode V) : VA V a6331 := VA_of (envOk C) C.c_reach_Plus.1 C.c_reach_Plus.2 (O := [a6280, a6280, a1959, a6304, a6280, a1959, a2078, a6280, a1959, a6320, a6320, a6320, a6320, a6320, a6320, a6320, a6280, a1959, a6321, a6320, a6320, a6280, a1959, a6320, a6320, a6320, a6320, a6320]) (.cons (t6280 C) (.cons (t6280 C) (.cons (t1959 C) (.cons (t6304 C) (.cons (t6280 C) (.cons (t1959 C) (.cons (t2078 C) (.cons (t6280 C) (.cons (t1959 C) (.cons (t6320 C) (.cons (t6320 C) (.cons (t6320 C) (.cons (t6320 C) (.cons (t6320 C) (.cons (t6320 C) (.cons (t6320 C) (.cons (t6280 C) (.cons (t1959 C) (.cons (t6321 C) (.cons (t6320 C) (.cons (t6320 C) (.cons (t6280 C) (.cons (t1959 C) (.cons (t6320 C) (.cons (t6320 C) (.cons (t6320 C) (.cons (t6320 C) (.cons (t6320 C) .nil)))))))))))))))))))))))))))) (by kernel_rfl)
def a6332 : Ans := ⟨n_sync_Hb, [v122, v132, v63], v133⟩
theorem t6332 (C : VCode V) : VA V a6332 := VA_of (envOk C) C.c_sync_Hb.1 C.c_sync_Hb.2 (O := [a5409, a6202, a1097, a6134, a6250, a6258, a6258, a6303, a6331]) (.cons (t5409 C) (.cons (t6202 C) (.cons (t1097 C) (.cons (t6134 C) (.cons (t6250 C) (.cons (t6258 C) (.cons (t6258 C) (.cons (t6303 C) (.cons (t6331 C) .nil))))))))) (by kernel_rfl)
def a6336 : Ans := ⟨n_bits_Of, [.ls [[.i .i64 0], [.i .i64 3], [.i .i64 14]]], .i .u64 16393⟩
theorem t6336 (C : VCode V) : VA V a6336 := VA_of (envOk C) C.c_bits_Of.1 C.c_bits_Of.2 (O := []) .nil (by kernel_rfl)
def v135 : VV := .ag [v132, v63, .ls [[.ls [[.i .i64 0], [.i .i64 3], [.i .i64 14]]]]]
def a6338 : Ans := ⟨n_cohe_Is, [v122, v135], .b true⟩
theorem t6338 (C : VCode V) : VA V a6338 := VA_of (envOk C) C.c_cohe_Is.1 C.c_cohe_Is.2 (O := [a6332, a6336]) (.cons (t6332 C) (.cons (t6336 C) .nil)) (by kernel_rfl)
def a6344 : Ans := ⟨n_slices_Index_sint_int, [v132, .i .i64 13], .i .i64 5⟩
theorem t6344 (C : VCode V) : VA V a6344 := VA_of (envOk C) C.c_slices_Index_sint_int.1 C.c_slices_Index_sint_int.2 (O := []) .nil (by kernel_rfl)
def v136 : VV := .ag [.i .i64 4, .ls [[.s ⟨⟨[120]⟩⟩]], .ls [[.ls [[.s ⟨⟨[97]⟩⟩]]], [.ls [[.s ⟨⟨[97]⟩⟩]]]], v121, v132, v63, .ls [[.ls [[.i .i64 0], [.i .i64 3], [.i .i64 14]]]], v133]
def a6347 : Ans := ⟨n_exec_run_atomic, [v136], .b true⟩
theorem t6347 (C : VCode V) : VA V a6347 := VA_of (envOk C) C.c_exec_run_atomic.1 C.c_exec_run_atomic.2 (O := [a6344]) (.cons (t6344 C) .nil) (by kernel_rfl)
def a6348 : Ans := ⟨n_exec_Atomic, [v122, v135], .b true⟩
theorem t6348 (C : VCode V) : VA V a6348 := VA_of (envOk C) C.c_exec_Atomic.1 C.c_exec_Atomic.2 (O := [a6338, a6332, a6347]) (.cons (t6338 C) (.cons (t6332 C) (.cons (t6347 C) .nil))) (by kernel_rfl)
def v137 : VV := .ls [[.i .i64 0, .i .i64 1], [.i .i64 0, .i .i64 2], [.i .i64 0, .i .i64 3], [.i .i64 0, .i .i64 10], [.i .i64 0, .i .i64 13], [.i .i64 0, .i .i64 14], [.i .i64 1, .i .i64 2], [.i .i64 1, .i .i64 3], [.i .i64 2, .i .i64 3], [.i .i64 10, .i .i64 13], [.i .i64 10, .i .i64 14], [.i .i64 13, .i .i64 14]]
def a6352 : Ans := ⟨n_rel_Pairs, [v133], v137⟩
theorem t6352 (C : VCode V) : VA V a6352 := VA_of (envOk C) C.c_rel_Pairs.1 C.c_rel_Pairs.2 (O := [a6280, a6304, a2078, a6321]) (.cons (t6280 C) (.cons (t6304 C) (.cons (t2078 C) (.cons (t6321 C) .nil)))) (by kernel_rfl)
def v138 : VV := .fp [.i .i64 4, .ls [[.s ⟨⟨[120]⟩⟩]], .ls [[.ls [[.s ⟨⟨[97]⟩⟩]]], [.ls [[.s ⟨⟨[97]⟩⟩]]]], v121, v132, v63, .ls [[.ls [[.i .i64 0], [.i .i64 3], [.i .i64 14]]]]] 0
def a6357 : Ans := ⟨n_cohe_Exec_1, [.i .i64 2, v128, v138], .i .i64 0⟩
theorem t6357 (C : VCode V) : VA V a6357 := VA_of (envOk C) C.c_cohe_Exec_1.1 C.c_cohe_Exec_1.2 (O := []) .nil (by kernel_rfl)
def a6359 : Ans := ⟨n_cohe_Exec_1, [.i .i64 3, v128, v138], .i .i64 1⟩
theorem t6359 (C : VCode V) : VA V a6359 := VA_of (envOk C) C.c_cohe_Exec_1.1 C.c_cohe_Exec_1.2 (O := []) .nil (by kernel_rfl)
def a6362 : Ans := ⟨n_cohe_Exec_1, [.i .i64 13, v128, v138], .i .i64 1⟩
theorem t6362 (C : VCode V) : VA V a6362 := VA_of (envOk C) C.c_cohe_Exec_1.1 C.c_cohe_Exec_1.2 (O := [a6344]) (.cons (t6344 C) .nil) (by kernel_rfl)
def v139 : VV := .ag [.i .i64 1, .i .i64 10, .i .i64 2, .i .i64 0, .i .i64 0, .i .i64 1, .b false, .b false, .ls []]
def a6365 : Ans := ⟨n_cohe_Pair, [v57, v139, .i .i64 0, .i .i64 1], .b true⟩
theorem t6365 (C : VCode V) : VA V a6365 := VA_of (envOk C) C.c_cohe_Pair.1 C.c_cohe_Pair.2 (O := []) .nil (by kernel_rfl)
def a6367 : Ans := ⟨n_cohe_Exec_1, [.i .i64 14, v128, v138], .i .i64 2⟩
theorem t6367 (C : VCode V) : VA V a6367 := VA_of (envOk C) C.c_cohe_Exec_1.1 C.c_cohe_Exec_1.2 (O := []) .nil (by kernel_rfl)
def a6379 : Ans := ⟨n_exec_run_behind, [v136, .i .i64 0], .i .u64 16392⟩
theorem t6379 (C : VCode V) : VA V a6379 := VA_of (envOk C) C.c_exec_run_behind.1 C.c_exec_run_behind.2 (O := []) .nil (by kernel_rfl)
def a6395 : Ans := ⟨n_exec_run_behind, [v136, .i .i64 3], .i .u64 16384⟩
theorem t6395 (C : VCode V) : VA V a6395 := VA_of (envOk C) C.c_exec_run_behind.1 C.c_exec_run_behind.2 (O := []) .nil (by kernel_rfl)
def a6411 : Ans := ⟨n_slices_Index_sint_int, [v132, .i .i64 14], .i .i64 6⟩
theorem t6411 (C : VCode V) : VA V a6411 := VA_of (envOk C) C.c_slices_Index_sint_int.1 C.c_slices_Index_sint_int.2 (O := []) .nil (by kernel_rfl)
def v140 : VV := .ls [[.i .u64 16396], [.i .u64 0], [.i .u64 16392], [.i .u64 24576], [.i .u64 0], [.i .u64 0], [.i .u64 0], [.i .u64 0], [.i .u64 0], [.i .u64 0], [.i .u64 0], [.i .u64 0], [.i .u64 0], [.i .u64 16384], [.i .u64 0], [.i .u64 0], [.i .u64 0], [.i .u64 0], [.i .u64 0]]
def a6421 : Ans := ⟨n_rel_May, [v140], .b true⟩
theorem t6421 (C : VCode V) : VA V a6421 := VA_of (envOk C) C.c_rel_May.1 C.c_rel_May.2 (O := [a1959]) (.cons (t1959 C) .nil) (by kernel_rfl)
def a6438 : Ans := ⟨n_reach_graph_grown, [v140, .i .u64 0, .f n_reach_graph_ahead [] []], .i .u64 0⟩
theorem t6438 (C : VCode V) : VA V a6438 := VA_of (envOk C) C.c_reach_graph_grown.1 C.c_reach_graph_grown.2 (O := [a6421, a1959]) (.cons (t6421 C) (.cons (t1959 C) .nil)) (by kernel_rfl)
def v141 : VV := .ls [[.i .u64 24588], [.i .u64 0], [.i .u64 24584], [.i .u64 24576], [.i .u64 0], [.i .u64 0], [.i .u64 0], [.i .u64 0], [.i .u64 0], [.i .u64 0], [.i .u64 0], [.i .u64 0], [.i .u64 0], [.i .u64 16384], [.i .u64 0], [.i .u64 0], [.i .u64 0], [.i .u64 0], [.i .u64 0]]
def a6456 : Ans := ⟨n_reach_Plus, [v140], v141⟩
theorem t6456 (C : VCode V) : VA V a6456 := VA_of (envOk C) C.c_reach_Plus.1 C.c_reach_Plus.2 (O := [a6421, a6421, a1959, a6421, a1959, a6438, a6421, a1959, a6421, a1959, a6421, a1959, a6321, a6438, a6438, a6438, a6438, a6438, a6438, a6438, a6438, a6438, a6421, a1959, a6438, a6438, a6438, a6438, a6438]) (.cons (t6421 C) (.cons (t6421 C) (.cons (t1959 C) (.cons (t6421 C) (.cons (t1959 C) (.cons (t6438 C) (.cons (t6421 C) (.cons (t1959 C) (.cons (t6421 C) (.cons (t1959 C) (.cons (t6421 C) (.cons (t1959 C) (.cons (t6321 C) (.cons (t6438 C) (.cons (t6438 C) (.cons (t6438 C) (.cons (t6438 C) (.cons (t6438 C) (.cons (t6438 C) (.cons (t6438 C) (.cons (t6438 C) (.cons (t6438 C) (.cons (t6421 C) (.cons (t1959 C) (.cons (t6438 C) (.cons (t6438 C) (.cons (t6438 C) (.cons (t6438 C) (.cons (t6438 C) .nil))))))))))))))))))))))))))))) (by kernel_rfl)
def v142 : VV := .ls [[.i .u64 25614], [.i .u64 12], [.i .u64 24584], [.i .u64 24576], [.i .u64 0], [.i .u64 0], [.i .u64 0], [.i .u64 0], [.i .u64 0], [.i .u64 0], [.i .u64 24576], [.i .u64 0], [.i .u64 0], [.i .u64 16384], [.i .u64 0], [.i .u64 0], [.i .u64 0], [.i .u64 0], [.i .u64 0]]
def a6487 : Ans := ⟨n_rel_Or, [v133, v141], v142⟩
theorem t6487 (C : VCode V) : VA V a6487 := VA_of (envOk C) C.c_rel_Or.1 C.c_rel_Or.2 (O := [a6280, a1959]) (.cons (t6280 C) (.cons (t1959 C) .nil)) (by kernel_rfl)
def v143 : VV := .ls [[.i .u64 0], [.i .u64 1], [.i .u64 3], [.i .u64 7], [.i .u64 0], [.i .u64 0], [.i .u64 0], [.i .u64 0], [.i .u64 0], [.i .u64 0], [.i .u64 1], [.i .u64 0], [.i .u64 0], [.i .u64 1025], [.i .u64 9217], [.i .u64 0], [.i .u64 0], [.i .u64 0], [.i .u64 0]]
def a6489 : Ans := ⟨n_rel_Back, [v133], v143⟩
theorem t6489 (C : VCode V) : VA V a6489 := VA_of (envOk C) C.c_rel_Back.1 C.c_rel_Back.2 (O := [a6280, a6352]) (.cons (t6280 C) (.cons (t6352 C) .nil)) (by kernel_rfl)
def a6498 : Ans := ⟨n_exec_Good, [v122, v135], .b true⟩
theorem t6498 (C : VCode V) : VA V a6498 := VA_of (envOk C) C.c_exec_Good.1 C.c_exec_Good.2 (O := [a6338, a6332, a6338, a6332, a6352, a6357, a2148, a6359, a6169, a6362, a6365, a6367, a6357, a6359, a6357, a6359, a6177, a6362, a6367, a6362, a6367, a6347, a6379, a6379, a6395, a6344, a6395, a6411, a6456, a6487, a6489, a2383]) (.cons (t6338 C) (.cons (t6332 C) (.cons (t6338 C) (.cons (t6332 C) (.cons (t6352 C) (.cons (t6357 C) (.cons (t2148 C) (.cons (t6359 C) (.cons (t6169 C) (.cons (t6362 C) (.cons (t6365 C) (.cons (t6367 C) (.cons (t6357 C) (.cons (t6359 C) (.cons (t6357 C) (.cons (t6359 C) (.cons (t6177 C) (.cons (t6362 C) (.cons (t6367 C) (.cons (t6362 C) (.cons (t6367 C) (.cons (t6347 C) (.cons (t6379 C) (.cons (t6379 C) (.cons (t6395 C) (.cons (t6344 C) (.cons (t6395 C) (.cons (t6411 C) (.cons (t6456 C) (.cons (t6487 C) (.cons (t6489 C) (.cons (t2383 C) .nil)))))))))))))))))))))))))))))))) (by kernel_rfl)
def a6511 : Ans := ⟨n_witheref17_Where, [v132, .i .i64 14], .i .i64 6⟩
theorem t6511 (C : VCode V) : VA V a6511 := VA_of (envOk C) C.c_witheref17_Where.1 C.c_witheref17_Where.2 (O := []) .nil (by kernel_rfl)
def a6513 : Ans := ⟨n_witheref17_ExecForm, [v122, v135], .b true⟩
theorem t6513 (C : VCode V) : VA V a6513 := VA_of (envOk C) C.c_witheref17_ExecForm.1 C.c_witheref17_ExecForm.2 (O := [a6511]) (.cons (t6511 C) .nil) (by kernel_rfl)
end
end Go.AM
