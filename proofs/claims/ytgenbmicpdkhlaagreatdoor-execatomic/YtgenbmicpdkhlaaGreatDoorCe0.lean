/-
  Certificates: what calls answer, each carried out by the kernel.
-/
import Derived.Test.YtgenbmicpdkhlaaGreatDoorCeE
import Derived.KernelRfl
set_option linter.unusedVariables false
set_option linter.unusedSimpArgs false
set_option linter.unusedSectionVars false
set_option linter.unnecessarySimpa false
set_option maxRecDepth 1000000
set_option maxHeartbeats 4000000
namespace Go.AM
section
variable {V : VProg}
def a9 : Ans := ⟨n_witheref6_Name, [.s ⟨⟨[120]⟩⟩], .b true⟩
theorem t9 (C : VCode V) : VA V a9 := VA_of (envOk C) C.c_witheref6_Name.1 C.c_witheref6_Name.2 (O := []) .nil (by kernel_rfl)
def a22 : Ans := ⟨n_witheref9_expr, [.ag [.i .i64 1, .i .i64 1, .s ⟨⟨[]⟩⟩, .ls []], .i .i64 2, .ls []], .i .i64 0⟩
theorem t22 (C : VCode V) : VA V a22 := VA_of (envOk C) C.c_witheref9_expr.1 C.c_witheref9_expr.2 (O := []) .nil (by kernel_rfl)
def a27 : Ans := ⟨n_witheref6_Name, [.s ⟨⟨[97]⟩⟩], .b true⟩
theorem t27 (C : VCode V) : VA V a27 := VA_of (envOk C) C.c_witheref6_Name.1 C.c_witheref6_Name.2 (O := []) .nil (by kernel_rfl)
def v0 : VV := .ls [[.i .i64 (-1), .i .i64 (-1), .i .i64 3, .i .i64 0, .i .i64 0, .i .i64 0, .b false, .b false, .ls []], [.i .i64 (-1), .i .i64 (-1), .i .i64 3, .i .i64 1, .i .i64 0, .i .i64 0, .b false, .b false, .ls []], [.i .i64 0, .i .i64 (-1), .i .i64 1, .i .i64 0, .i .i64 0, .i .i64 0, .b false, .b false, .ls []], [.i .i64 0, .i .i64 2, .i .i64 3, .i .i64 0, .i .i64 0, .i .i64 1, .b false, .b false, .ls []], [.i .i64 0, .i .i64 3, .i .i64 2, .i .i64 1, .i .i64 0, .i .i64 0, .b false, .b true, .ls [[.i .i64 0]]], [.i .i64 0, .i .i64 3, .i .i64 2, .i .i64 1, .i .i64 0, .i .i64 1, .b false, .b true, .ls [[.i .i64 1]]], [.i .i64 1, .i .i64 (-1), .i .i64 1, .i .i64 0, .i .i64 0, .i .i64 0, .b false, .b false, .ls []], [.i .i64 1, .i .i64 6, .i .i64 3, .i .i64 1, .i .i64 0, .i .i64 1, .b false, .b false, .ls []], [.i .i64 1, .i .i64 7, .i .i64 2, .i .i64 0, .i .i64 0, .i .i64 0, .b false, .b true, .ls [[.i .i64 0]]], [.i .i64 1, .i .i64 7, .i .i64 2, .i .i64 0, .i .i64 0, .i .i64 1, .b false, .b true, .ls [[.i .i64 1]]]]
def v1 : VV := .ag [.i .i64 2, .ls [[.s ⟨⟨[120]⟩⟩], [.s ⟨⟨[121]⟩⟩]], .ls [[.ls [[.s ⟨⟨[97]⟩⟩]]], [.ls [[.s ⟨⟨[98]⟩⟩]]]], v0]
def a63 : Ans := ⟨n_witheref12_Kids, [v1, .i .i64 2], .ls [[.i .i64 3]]⟩
theorem t63 (C : VCode V) : VA V a63 := VA_of (envOk C) C.c_witheref12_Kids.1 C.c_witheref12_Kids.2 (O := []) .nil (by kernel_rfl)
def a64 : Ans := ⟨n_witheref12_Kids, [v1, .i .i64 6], .ls [[.i .i64 7]]⟩
theorem t64 (C : VCode V) : VA V a64 := VA_of (envOk C) C.c_witheref12_Kids.1 C.c_witheref12_Kids.2 (O := []) .nil (by kernel_rfl)
def a79 : Ans := ⟨n_witheref1_Power, [.i .i64 6], .i .u64 64⟩
theorem t79 (C : VCode V) : VA V a79 := VA_of (envOk C) C.c_witheref1_Power.1 C.c_witheref1_Power.2 (O := []) .nil (by kernel_rfl)
def a81 : Ans := ⟨n_witheref12_Inits, [v1], .i .u64 71⟩
theorem t81 (C : VCode V) : VA V a81 := VA_of (envOk C) C.c_witheref12_Inits.1 C.c_witheref12_Inits.2 (O := [a79]) (.cons (t79 C) .nil) (by kernel_rfl)
def a93 : Ans := ⟨n_witheref12_Kids, [v1, .i .i64 3], .ls [[.i .i64 4], [.i .i64 5]]⟩
theorem t93 (C : VCode V) : VA V a93 := VA_of (envOk C) C.c_witheref12_Kids.1 C.c_witheref12_Kids.2 (O := []) .nil (by kernel_rfl)
def a98 : Ans := ⟨n_witheref1_Put, [.i .u64 7, .i .i64 3], .i .u64 15⟩
theorem t98 (C : VCode V) : VA V a98 := VA_of (envOk C) C.c_witheref1_Put.1 C.c_witheref1_Put.2 (O := []) .nil (by kernel_rfl)
def a117 : Ans := ⟨n_witheref1_Put, [.i .u64 15, .i .i64 4], .i .u64 31⟩
theorem t117 (C : VCode V) : VA V a117 := VA_of (envOk C) C.c_witheref1_Put.1 C.c_witheref1_Put.2 (O := []) .nil (by kernel_rfl)
def v2 : VV := .ls [[.i .i64 0], [.i .i64 1], [.i .i64 2], [.i .i64 3], [.i .i64 4], [.i .i64 6]]
def v3 : VV := .ls [[.i .i64 (-1)], [.i .i64 (-1)], [.i .i64 (-1)], [.i .i64 (-1)], [.i .i64 1], [.i .i64 (-1)]]
def v4 : VV := .ls [[.ls [[.ls [[.i .i64 0]]], [.ls [[.i .i64 3]]]]], [.ls [[.ls [[.i .i64 1]]]]]]
def v5 : VV := .ag [v2, v3, v4]
def a125 : Ans := ⟨n_witheref17_Form, [v1, v5], .b true⟩
theorem t125 (C : VCode V) : VA V a125 := VA_of (envOk C) C.c_witheref17_Form.1 C.c_witheref17_Form.2 (O := [a81, a98, a117, a79]) (.cons (t81 C) (.cons (t98 C) (.cons (t117 C) (.cons (t79 C) .nil)))) (by kernel_rfl)
def a133 : Ans := ⟨n_witheref12_Kids, [v1, .i .i64 7], .ls [[.i .i64 8], [.i .i64 9]]⟩
theorem t133 (C : VCode V) : VA V a133 := VA_of (envOk C) C.c_witheref12_Kids.1 C.c_witheref12_Kids.2 (O := []) .nil (by kernel_rfl)
def a140 : Ans := ⟨n_witheref1_Put, [.i .u64 95, .i .i64 7], .i .u64 223⟩
theorem t140 (C : VCode V) : VA V a140 := VA_of (envOk C) C.c_witheref1_Put.1 C.c_witheref1_Put.2 (O := []) .nil (by kernel_rfl)
def v6 : VV := .ls [[.i .i64 0], [.i .i64 1], [.i .i64 2], [.i .i64 3], [.i .i64 4], [.i .i64 6], [.i .i64 7]]
def a146 : Ans := ⟨n_witheref17_Where, [v6, .i .i64 7], .i .i64 6⟩
theorem t146 (C : VCode V) : VA V a146 := VA_of (envOk C) C.c_witheref17_Where.1 C.c_witheref17_Where.2 (O := []) .nil (by kernel_rfl)
def v7 : VV := .ls [[.i .i64 0], [.i .i64 1], [.i .i64 2], [.i .i64 3], [.i .i64 4], [.i .i64 6], [.i .i64 7], [.i .i64 9]]
def a158 : Ans := ⟨n_witheref17_Where, [v7, .i .i64 7], .i .i64 6⟩
theorem t158 (C : VCode V) : VA V a158 := VA_of (envOk C) C.c_witheref17_Where.1 C.c_witheref17_Where.2 (O := []) .nil (by kernel_rfl)
def v8 : VV := .ls [[.i .i64 (-1)], [.i .i64 (-1)], [.i .i64 (-1)], [.i .i64 (-1)], [.i .i64 1], [.i .i64 (-1)], [.i .i64 (-1)], [.i .i64 3]]
def v9 : VV := .ls [[.ls [[.ls [[.i .i64 0]]], [.ls [[.i .i64 3]]]]], [.ls [[.ls [[.i .i64 1]]], [.ls [[.i .i64 7]]]]]]
def v10 : VV := .ag [v7, v8, v9]
def v11 : VV := .tu [v10, .b true, .ls [[.i .i64 1], [.i .i64 1]]]
def a171 : Ans := ⟨n_withemade_steps, [v1, .ls [], .i .i64 70], v11⟩
theorem t171 (C : VCode V) : VA V a171 := VA_of (envOk C) C.c_withemade_steps.1 C.c_withemade_steps.2 (O := [a63, a64, a63, a81, a79, a93, a64, a93, a81, a98, a79, a125, a64, a64, a125, a133, a133, a81, a98, a117, a79, a140, a146, a146, a158, a81, a98, a117, a79, a140, a158]) (.cons (t63 C) (.cons (t64 C) (.cons (t63 C) (.cons (t81 C) (.cons (t79 C) (.cons (t93 C) (.cons (t64 C) (.cons (t93 C) (.cons (t81 C) (.cons (t98 C) (.cons (t79 C) (.cons (t125 C) (.cons (t64 C) (.cons (t64 C) (.cons (t125 C) (.cons (t133 C) (.cons (t133 C) (.cons (t81 C) (.cons (t98 C) (.cons (t117 C) (.cons (t79 C) (.cons (t140 C) (.cons (t146 C) (.cons (t146 C) (.cons (t158 C) (.cons (t81 C) (.cons (t98 C) (.cons (t117 C) (.cons (t79 C) (.cons (t140 C) (.cons (t158 C) .nil))))))))))))))))))))))))))))))) (by kernel_rfl)
def a181 : Ans := ⟨n_bits_Of, [v7], .i .u64 735⟩
theorem t181 (C : VCode V) : VA V a181 := VA_of (envOk C) C.c_bits_Of.1 C.c_bits_Of.2 (O := []) .nil (by kernel_rfl)
def a227 : Ans := ⟨n_lts_May, [v1], .b true⟩
theorem t227 (C : VCode V) : VA V a227 := VA_of (envOk C) C.c_lts_May.1 C.c_lts_May.2 (O := []) .nil (by kernel_rfl)
def v12 : VV := .ls [[.i .i64 0], [.i .i64 0], [.i .i64 0], [.i .i64 1], [.i .i64 2], [.i .i64 2], [.i .i64 0], [.i .i64 1], [.i .i64 2], [.i .i64 2]]
def v13 : VV := .ls [[.i .u64 0], [.i .u64 0], [.i .u64 0], [.i .u64 4], [.i .u64 12], [.i .u64 12], [.i .u64 0], [.i .u64 64], [.i .u64 192], [.i .u64 192]]
def v14 : VV := .ag [.i .i64 2, .ls [[.s ⟨⟨[120]⟩⟩], [.s ⟨⟨[121]⟩⟩]], .ls [[.ls [[.s ⟨⟨[97]⟩⟩]]], [.ls [[.s ⟨⟨[98]⟩⟩]]]], v0, v12, v13]
def v15 : VV := .tu [v14, .b true]
def a232 : Ans := ⟨n_tree_of, [v1], v15⟩
theorem t232 (C : VCode V) : VA V a232 := VA_of (envOk C) C.c_tree_of.1 C.c_tree_of.2 (O := [a227]) (.cons (t227 C) .nil) (by kernel_rfl)
def v16 : VV := .f n_tree_deep_against [v14] []
def v17 : VV := .ls [[.i .u64 0], [.i .u64 0], [.i .u64 0], [.i .u64 0], [.i .u64 32], [.i .u64 16], [.i .u64 0], [.i .u64 0], [.i .u64 512], [.i .u64 256]]
def a369 : Ans := ⟨n_tree_deep_rows, [v14, v16], v17⟩
theorem t369 (C : VCode V) : VA V a369 := VA_of (envOk C) C.c_tree_deep_rows.1 C.c_tree_deep_rows.2 (O := []) .nil (by kernel_rfl)
def a426 : Ans := ⟨n_shape_May, [v1, v10], .b true⟩
theorem t426 (C : VCode V) : VA V a426 := VA_of (envOk C) C.c_shape_May.1 C.c_shape_May.2 (O := [a227, a181, a232, a369, a232]) (.cons (t227 C) (.cons (t181 C) (.cons (t232 C) (.cons (t369 C) (.cons (t232 C) .nil))))) (by kernel_rfl)
def a437 : Ans := ⟨n_bits_List, [.i .u64 735], v7⟩
theorem t437 (C : VCode V) : VA V a437 := VA_of (envOk C) C.c_bits_List.1 C.c_bits_List.2 (O := []) .nil (by kernel_rfl)
def a458 : Ans := ⟨n_slices_Index_sint_int, [v7, .i .i64 6], .i .i64 5⟩
theorem t458 (C : VCode V) : VA V a458 := VA_of (envOk C) C.c_slices_Index_sint_int.1 C.c_slices_Index_sint_int.2 (O := []) .nil (by kernel_rfl)
def a460 : Ans := ⟨n_slices_Index_sint_int, [v7, .i .i64 7], .i .i64 6⟩
theorem t460 (C : VCode V) : VA V a460 := VA_of (envOk C) C.c_slices_Index_sint_int.1 C.c_slices_Index_sint_int.2 (O := []) .nil (by kernel_rfl)
def a462 : Ans := ⟨n_slices_Index_sint_int, [v7, .i .i64 9], .i .i64 7⟩
theorem t462 (C : VCode V) : VA V a462 := VA_of (envOk C) C.c_slices_Index_sint_int.1 C.c_slices_Index_sint_int.2 (O := []) .nil (by kernel_rfl)
def v18 : VV := .ls [[.i .i64 (-1)], [.i .i64 (-1)], [.i .i64 (-1)], [.i .i64 (-1)], [.i .i64 1], [.i .i64 (-1)], [.i .i64 (-1)], [.i .i64 (-1)], [.i .i64 (-1)], [.i .i64 3]]
def v19 : VV := .ls [[.i .u64 1020], [.i .u64 1020], [.i .u64 56], [.i .u64 48], [.i .u64 0], [.i .u64 0], [.i .u64 896], [.i .u64 768], [.i .u64 0], [.i .u64 0]]
def v20 : VV := .fp [.i .i64 2, .ls [[.s ⟨⟨[120]⟩⟩], [.s ⟨⟨[121]⟩⟩]], .ls [[.ls [[.s ⟨⟨[97]⟩⟩]]], [.ls [[.s ⟨⟨[98]⟩⟩]]]], v0, .i .u64 735, v18, v19] 0
def v21 : VV := .tu [v20, .b true]
def a685 : Ans := ⟨n_sync_of, [v1, v7, v8], v21⟩
theorem t685 (C : VCode V) : VA V a685 := VA_of (envOk C) C.c_sync_of.1 C.c_sync_of.2 (O := [a227, a181, a232]) (.cons (t227 C) (.cons (t181 C) (.cons (t232 C) .nil))) (by kernel_rfl)
def a686 : Ans := ⟨n_bits_Range, [.i .i64 0, .i .i64 10], .i .u64 1023⟩
theorem t686 (C : VCode V) : VA V a686 := VA_of (envOk C) C.c_bits_Range.1 C.c_bits_Range.2 (O := []) .nil (by kernel_rfl)
def v22 : VV := .ls [[.i .u64 732], [.i .u64 732], [.i .u64 24], [.i .u64 16], [.i .u64 0], [.i .u64 0], [.i .u64 640], [.i .u64 512], [.i .u64 0], [.i .u64 0]]
def a746 : Ans := ⟨n_rel_May, [v22], .b true⟩
theorem t746 (C : VCode V) : VA V a746 := VA_of (envOk C) C.c_rel_May.1 C.c_rel_May.2 (O := [a686]) (.cons (t686 C) .nil) (by kernel_rfl)
def v23 : VV := .ls [[.i .u64 0], [.i .u64 0], [.i .u64 0], [.i .u64 0], [.i .u64 0], [.i .u64 0], [.i .u64 0], [.i .u64 0], [.i .u64 0], [.i .u64 0]]
def a749 : Ans := ⟨n_rel_May, [v23], .b true⟩
theorem t749 (C : VCode V) : VA V a749 := VA_of (envOk C) C.c_rel_May.1 C.c_rel_May.2 (O := [a686]) (.cons (t686 C) .nil) (by kernel_rfl)
def v24 : VV := .ls [[.i .i64 2], [.i .i64 3], [.i .i64 4], [.i .i64 6], [.i .i64 7], [.i .i64 9]]
def a764 : Ans := ⟨n_bits_List, [.i .u64 732], v24⟩
theorem t764 (C : VCode V) : VA V a764 := VA_of (envOk C) C.c_bits_List.1 C.c_bits_List.2 (O := []) .nil (by kernel_rfl)
def a768 : Ans := ⟨n_reach_graph_grown, [v22, .i .u64 732, .f n_reach_graph_ahead [] []], .i .u64 732⟩
theorem t768 (C : VCode V) : VA V a768 := VA_of (envOk C) C.c_reach_graph_grown.1 C.c_reach_graph_grown.2 (O := [a746, a686, a764]) (.cons (t746 C) (.cons (t686 C) (.cons (t764 C) .nil))) (by kernel_rfl)
def a771 : Ans := ⟨n_bits_List, [.i .u64 24], .ls [[.i .i64 3], [.i .i64 4]]⟩
theorem t771 (C : VCode V) : VA V a771 := VA_of (envOk C) C.c_bits_List.1 C.c_bits_List.2 (O := []) .nil (by kernel_rfl)
def a784 : Ans := ⟨n_reach_graph_grown, [v22, .i .u64 0, .f n_reach_graph_ahead [] []], .i .u64 0⟩
theorem t784 (C : VCode V) : VA V a784 := VA_of (envOk C) C.c_reach_graph_grown.1 C.c_reach_graph_grown.2 (O := [a746, a686]) (.cons (t746 C) (.cons (t686 C) .nil)) (by kernel_rfl)
def a785 : Ans := ⟨n_bits_List, [.i .u64 640], .ls [[.i .i64 7], [.i .i64 9]]⟩
theorem t785 (C : VCode V) : VA V a785 := VA_of (envOk C) C.c_bits_List.1 C.c_bits_List.2 (O := []) .nil (by kernel_rfl)
def a796 : Ans := ⟨n_sync_Hb, [v1, v7, v8], v22⟩
theorem t796 (C : VCode V) : VA V a796 := VA_of (envOk C) C.c_sync_Hb.1 C.c_sync_Hb.2 (O := [a685, a686, a437, a437, a746, a749, a746, a768, a768, a746, a686, a771, a746, a686, a784, a784, a746, a686, a785, a746, a686, a784, a784]) (.cons (t685 C) (.cons (t686 C) (.cons (t437 C) (.cons (t437 C) (.cons (t746 C) (.cons (t749 C) (.cons (t746 C) (.cons (t768 C) (.cons (t768 C) (.cons (t746 C) (.cons (t686 C) (.cons (t771 C) (.cons (t746 C) (.cons (t686 C) (.cons (t784 C) (.cons (t784 C) (.cons (t746 C) (.cons (t686 C) (.cons (t785 C) (.cons (t746 C) (.cons (t686 C) (.cons (t784 C) (.cons (t784 C) .nil))))))))))))))))))))))) (by kernel_rfl)
def v25 : VV := .ls [[.ls [[.i .i64 0], [.i .i64 3]]], [.ls [[.i .i64 1], [.i .i64 7]]]]
def v26 : VV := .ag [v7, v8, v25]
def a801 : Ans := ⟨n_cohe_Is, [v1, v26], .b true⟩
theorem t801 (C : VCode V) : VA V a801 := VA_of (envOk C) C.c_cohe_Is.1 C.c_cohe_Is.2 (O := [a796]) (.cons (t796 C) .nil) (by kernel_rfl)
def v27 : VV := .ag [.i .i64 2, .ls [[.s ⟨⟨[120]⟩⟩], [.s ⟨⟨[121]⟩⟩]], .ls [[.ls [[.s ⟨⟨[97]⟩⟩]]], [.ls [[.s ⟨⟨[98]⟩⟩]]]], v0, v7, v8, v25, v22]
def a811 : Ans := ⟨n_exec_run_behind, [v27, .i .i64 1], .i .u64 128⟩
theorem t811 (C : VCode V) : VA V a811 := VA_of (envOk C) C.c_exec_run_behind.1 C.c_exec_run_behind.2 (O := []) .nil (by kernel_rfl)
def v28 : VV := .ls [[.i .u64 8], [.i .u64 144], [.i .u64 0], [.i .u64 512], [.i .u64 128], [.i .u64 0], [.i .u64 0], [.i .u64 0], [.i .u64 0], [.i .u64 0]]
def a853 : Ans := ⟨n_rel_May, [v28], .b true⟩
theorem t853 (C : VCode V) : VA V a853 := VA_of (envOk C) C.c_rel_May.1 C.c_rel_May.2 (O := [a686]) (.cons (t686 C) .nil) (by kernel_rfl)
def a872 : Ans := ⟨n_reach_graph_grown, [v28, .i .u64 0, .f n_reach_graph_ahead [] []], .i .u64 0⟩
theorem t872 (C : VCode V) : VA V a872 := VA_of (envOk C) C.c_reach_graph_grown.1 C.c_reach_graph_grown.2 (O := [a853, a686]) (.cons (t853 C) (.cons (t686 C) .nil)) (by kernel_rfl)
def v29 : VV := .ls [[.i .u64 520], [.i .u64 144], [.i .u64 0], [.i .u64 512], [.i .u64 128], [.i .u64 0], [.i .u64 0], [.i .u64 0], [.i .u64 0], [.i .u64 0]]
def a882 : Ans := ⟨n_exec_run_eco, [v27], v29⟩
theorem t882 (C : VCode V) : VA V a882 := VA_of (envOk C) C.c_exec_run_eco.1 C.c_exec_run_eco.2 (O := [a811, a811, a458, a460, a462, a853, a853, a686, a853, a686, a853, a686, a872, a853, a686, a853, a686, a872, a872, a872, a872, a872]) (.cons (t811 C) (.cons (t811 C) (.cons (t458 C) (.cons (t460 C) (.cons (t462 C) (.cons (t853 C) (.cons (t853 C) (.cons (t686 C) (.cons (t853 C) (.cons (t686 C) (.cons (t853 C) (.cons (t686 C) (.cons (t872 C) (.cons (t853 C) (.cons (t686 C) (.cons (t853 C) (.cons (t686 C) (.cons (t872 C) (.cons (t872 C) (.cons (t872 C) (.cons (t872 C) (.cons (t872 C) .nil)))))))))))))))))))))) (by kernel_rfl)
def a888 : Ans := ⟨n_rel_May, [v29], .b true⟩
theorem t888 (C : VCode V) : VA V a888 := VA_of (envOk C) C.c_rel_May.1 C.c_rel_May.2 (O := [a686]) (.cons (t686 C) .nil) (by kernel_rfl)
def a891 : Ans := ⟨n_exec_run_atomic, [v27], .b true⟩
theorem t891 (C : VCode V) : VA V a891 := VA_of (envOk C) C.c_exec_run_atomic.1 C.c_exec_run_atomic.2 (O := []) .nil (by kernel_rfl)
def v30 : VV := .ls [[.i .i64 0, .i .i64 2], [.i .i64 0, .i .i64 3], [.i .i64 0, .i .i64 4], [.i .i64 0, .i .i64 6], [.i .i64 0, .i .i64 7], [.i .i64 0, .i .i64 9], [.i .i64 1, .i .i64 2], [.i .i64 1, .i .i64 3], [.i .i64 1, .i .i64 4], [.i .i64 1, .i .i64 6], [.i .i64 1, .i .i64 7], [.i .i64 1, .i .i64 9], [.i .i64 2, .i .i64 3], [.i .i64 2, .i .i64 4], [.i .i64 3, .i .i64 4], [.i .i64 6, .i .i64 7], [.i .i64 6, .i .i64 9], [.i .i64 7, .i .i64 9]]
def a907 : Ans := ⟨n_rel_Pairs, [v22], v30⟩
theorem t907 (C : VCode V) : VA V a907 := VA_of (envOk C) C.c_rel_Pairs.1 C.c_rel_Pairs.2 (O := [a746, a764, a764, a771, a785]) (.cons (t746 C) (.cons (t764 C) (.cons (t764 C) (.cons (t771 C) (.cons (t785 C) .nil))))) (by kernel_rfl)
def a920 : Ans := ⟨n_exec_run_psc, [v27], v23⟩
theorem t920 (C : VCode V) : VA V a920 := VA_of (envOk C) C.c_exec_run_psc.1 C.c_exec_run_psc.2 (O := [a882, a746, a888, a746, a907]) (.cons (t882 C) (.cons (t746 C) (.cons (t888 C) (.cons (t746 C) (.cons (t907 C) .nil))))) (by kernel_rfl)
def v31 : VV := .fp [.i .i64 2, .ls [[.s ⟨⟨[120]⟩⟩], [.s ⟨⟨[121]⟩⟩]], .ls [[.ls [[.s ⟨⟨[97]⟩⟩]]], [.ls [[.s ⟨⟨[98]⟩⟩]]]], v0] 0
def v32 : VV := .fp [.i .i64 2, .ls [[.s ⟨⟨[120]⟩⟩], [.s ⟨⟨[121]⟩⟩]], .ls [[.ls [[.s ⟨⟨[97]⟩⟩]]], [.ls [[.s ⟨⟨[98]⟩⟩]]]], v0, v7, v8, v25] 0
def a939 : Ans := ⟨n_cohe_Exec_1, [.i .i64 3, v31, v32], .i .i64 1⟩
theorem t939 (C : VCode V) : VA V a939 := VA_of (envOk C) C.c_cohe_Exec_1.1 C.c_cohe_Exec_1.2 (O := []) .nil (by kernel_rfl)
def a944 : Ans := ⟨n_cohe_Exec_1, [.i .i64 4, v31, v32], .i .i64 0⟩
theorem t944 (C : VCode V) : VA V a944 := VA_of (envOk C) C.c_cohe_Exec_1.1 C.c_cohe_Exec_1.2 (O := []) .nil (by kernel_rfl)
def a951 : Ans := ⟨n_cohe_Exec_1, [.i .i64 7, v31, v32], .i .i64 1⟩
theorem t951 (C : VCode V) : VA V a951 := VA_of (envOk C) C.c_cohe_Exec_1.1 C.c_cohe_Exec_1.2 (O := []) .nil (by kernel_rfl)
def a955 : Ans := ⟨n_cohe_Exec_1, [.i .i64 9, v31, v32], .i .i64 1⟩
theorem t955 (C : VCode V) : VA V a955 := VA_of (envOk C) C.c_cohe_Exec_1.1 C.c_cohe_Exec_1.2 (O := [a462]) (.cons (t462 C) .nil) (by kernel_rfl)
def a981 : Ans := ⟨n_reach_graph_grown, [v23, .i .u64 0, .f n_reach_graph_ahead [] []], .i .u64 0⟩
theorem t981 (C : VCode V) : VA V a981 := VA_of (envOk C) C.c_reach_graph_grown.1 C.c_reach_graph_grown.2 (O := [a749, a686]) (.cons (t749 C) (.cons (t686 C) .nil)) (by kernel_rfl)
def a990 : Ans := ⟨n_withelaw27_begun, [], .b true⟩
theorem t990 (C : VCode V) : VA V a990 := VA_of (envOk C) C.c_withelaw27_begun.1 C.c_withelaw27_begun.2 (O := [a9, a22, a27, a22, a171, a181, a426, a181, a437, a458, a460, a462, a426, a181, a801, a796, a882, a888, a801, a796, a891, a801, a796, a920, a801, a796, a801, a796, a907, a939, a944, a951, a955, a939, a944, a951, a955, a939, a944, a939, a944, a951, a955, a951, a955, a891, a920, a749, a981, a981, a981, a981, a981, a981, a981, a981, a981, a981, a749]) (.cons (t9 C) (.cons (t22 C) (.cons (t27 C) (.cons (t22 C) (.cons (t171 C) (.cons (t181 C) (.cons (t426 C) (.cons (t181 C) (.cons (t437 C) (.cons (t458 C) (.cons (t460 C) (.cons (t462 C) (.cons (t426 C) (.cons (t181 C) (.cons (t801 C) (.cons (t796 C) (.cons (t882 C) (.cons (t888 C) (.cons (t801 C) (.cons (t796 C) (.cons (t891 C) (.cons (t801 C) (.cons (t796 C) (.cons (t920 C) (.cons (t801 C) (.cons (t796 C) (.cons (t801 C) (.cons (t796 C) (.cons (t907 C) (.cons (t939 C) (.cons (t944 C) (.cons (t951 C) (.cons (t955 C) (.cons (t939 C) (.cons (t944 C) (.cons (t951 C) (.cons (t955 C) (.cons (t939 C) (.cons (t944 C) (.cons (t939 C) (.cons (t944 C) (.cons (t951 C) (.cons (t955 C) (.cons (t951 C) (.cons (t955 C) (.cons (t891 C) (.cons (t920 C) (.cons (t749 C) (.cons (t981 C) (.cons (t981 C) (.cons (t981 C) (.cons (t981 C) (.cons (t981 C) (.cons (t981 C) (.cons (t981 C) (.cons (t981 C) (.cons (t981 C) (.cons (t981 C) (.cons (t749 C) .nil))))))))))))))))))))))))))))))))))))))))))))))))))))))))))) (by kernel_rfl)
end
end Go.AM
