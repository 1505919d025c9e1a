/-
  Certificates: what calls answer, each carried out by the kernel.
-/
import Derived.Test.YtgenbmicpdkhlaaGreatDoorCeE
import Derived.KernelRfl
import Derived.Test.YtgenbmicpdkhlaaGreatDoorCe0
import Derived.Test.YtgenbmicpdkhlaaGreatDoorCe1
import Derived.Test.YtgenbmicpdkhlaaGreatDoorCe4
import Derived.Test.YtgenbmicpdkhlaaGreatDoorCe13
set_option linter.unusedVariables false
set_option linter.unusedSimpArgs false
set_option linter.unusedSectionVars false
set_option linter.unnecessarySimpa false
set_option maxRecDepth 1000000
set_option maxHeartbeats 4000000
namespace Go.AM
section
variable {V : VProg}
def v306 : VV := .ls [[v103], [v103]]
def v307 : VV := .ag [.s ⟨⟨[97]⟩⟩, .i .i64 4, .ls [[.s ⟨⟨[120]⟩⟩, .i .i64 0]], v306, .i .i64 1, .i .i64 1, .i .i64 0, .s ⟨⟨[120]⟩⟩, .i .i64 0, .ls []]
def v308 : VV := .ls [[.i .i64 (-1), .i .i64 (-1), .i .i64 3, .i .i64 0, .i .i64 0, .i .i64 0, .b false, .b false, .ls []], [.i .i64 0, .i .i64 (-1), .i .i64 1, .i .i64 0, .i .i64 0, .i .i64 0, .b false, .b false, .ls []], [.i .i64 0, .i .i64 1, .i .i64 2, .i .i64 0, .i .i64 0, .i .i64 0, .b false, .b false, .ls []], [.i .i64 0, .i .i64 2, .i .i64 3, .i .i64 0, .i .i64 0, .i .i64 3, .b true, .b true, .ls [[.i .i64 0]]], [.i .i64 0, .i .i64 1, .i .i64 2, .i .i64 0, .i .i64 0, .i .i64 1, .b false, .b false, .ls []], [.i .i64 0, .i .i64 4, .i .i64 3, .i .i64 0, .i .i64 0, .i .i64 0, .b true, .b true, .ls [[.i .i64 1]]], [.i .i64 0, .i .i64 1, .i .i64 2, .i .i64 0, .i .i64 0, .i .i64 2, .b false, .b false, .ls []], [.i .i64 0, .i .i64 6, .i .i64 3, .i .i64 0, .i .i64 0, .i .i64 1, .b true, .b true, .ls [[.i .i64 2]]], [.i .i64 0, .i .i64 1, .i .i64 2, .i .i64 0, .i .i64 0, .i .i64 3, .b false, .b false, .ls []], [.i .i64 0, .i .i64 8, .i .i64 3, .i .i64 0, .i .i64 0, .i .i64 2, .b true, .b true, .ls [[.i .i64 3]]], [.i .i64 1, .i .i64 (-1), .i .i64 1, .i .i64 0, .i .i64 0, .i .i64 0, .b false, .b false, .ls []], [.i .i64 1, .i .i64 10, .i .i64 2, .i .i64 0, .i .i64 0, .i .i64 0, .b false, .b false, .ls []], [.i .i64 1, .i .i64 11, .i .i64 3, .i .i64 0, .i .i64 0, .i .i64 3, .b true, .b true, .ls [[.i .i64 0]]], [.i .i64 1, .i .i64 10, .i .i64 2, .i .i64 0, .i .i64 0, .i .i64 1, .b false, .b false, .ls []], [.i .i64 1, .i .i64 13, .i .i64 3, .i .i64 0, .i .i64 0, .i .i64 0, .b true, .b true, .ls [[.i .i64 1]]], [.i .i64 1, .i .i64 10, .i .i64 2, .i .i64 0, .i .i64 0, .i .i64 2, .b false, .b false, .ls []], [.i .i64 1, .i .i64 15, .i .i64 3, .i .i64 0, .i .i64 0, .i .i64 1, .b true, .b true, .ls [[.i .i64 2]]], [.i .i64 1, .i .i64 10, .i .i64 2, .i .i64 0, .i .i64 0, .i .i64 3, .b false, .b false, .ls []], [.i .i64 1, .i .i64 17, .i .i64 3, .i .i64 0, .i .i64 0, .i .i64 2, .b true, .b true, .ls [[.i .i64 3]]]]
def v309 : VV := .ag [.i .i64 4, .ls [[.s ⟨⟨[120]⟩⟩]], .ls [[.ls [[.s ⟨⟨[97]⟩⟩]]], [.ls [[.s ⟨⟨[97]⟩⟩]]]], v308]
def v310 : VV := .tu [v309, .b true]
def a16568 : Ans := ⟨n_withemade_Tree, [v307], v310⟩
theorem t16568 (C : VCode V) : VA V a16568 := VA_of (envOk C) C.c_withemade_Tree.1 C.c_withemade_Tree.2 (O := [a27, a9, a27, a4356, a27, a4356, a1002, a4359, a4359, a4362, a4362, a4362, a4362, a4362, a4362, a4362, a4362]) (.cons (t27 C) (.cons (t9 C) (.cons (t27 C) (.cons (t4356 C) (.cons (t27 C) (.cons (t4356 C) (.cons (t1002 C) (.cons (t4359 C) (.cons (t4359 C) (.cons (t4362 C) (.cons (t4362 C) (.cons (t4362 C) (.cons (t4362 C) (.cons (t4362 C) (.cons (t4362 C) (.cons (t4362 C) (.cons (t4362 C) .nil))))))))))))))))) (by kernel_rfl)
def a16644 : Ans := ⟨n_lts_May, [v309], .b true⟩
theorem t16644 (C : VCode V) : VA V a16644 := VA_of (envOk C) C.c_lts_May.1 C.c_lts_May.2 (O := []) .nil (by kernel_rfl)
def v311 : VV := .ag [.i .i64 4, .ls [[.s ⟨⟨[120]⟩⟩]], .ls [[.ls [[.s ⟨⟨[97]⟩⟩]]], [.ls [[.s ⟨⟨[97]⟩⟩]]]], v308, v41, v42]
def v312 : VV := .f n_tree_deep_before [v311] []
def a17368 : Ans := ⟨n_tree_deep_rows, [v311, v312], v45⟩
theorem t17368 (C : VCode V) : VA V a17368 := VA_of (envOk C) C.c_tree_deep_rows.1 C.c_tree_deep_rows.2 (O := []) .nil (by kernel_rfl)
def a17369 : Ans := ⟨n_tree_Po, [v309], v45⟩
theorem t17369 (C : VCode V) : VA V a17369 := VA_of (envOk C) C.c_tree_Po.1 C.c_tree_Po.2 (O := [a16644, a17368]) (.cons (t16644 C) (.cons (t17368 C) .nil)) (by kernel_rfl)
def a17381 : Ans := ⟨n_sync_Hb, [v309, v40, v49], v46⟩
theorem t17381 (C : VCode V) : VA V a17381 := VA_of (envOk C) C.c_sync_Hb.1 C.c_sync_Hb.2 (O := [a16644, a1095, a1097, a17369, a2025, a2033, a2071, a2101]) (.cons (t16644 C) (.cons (t1095 C) (.cons (t1097 C) (.cons (t17369 C) (.cons (t2025 C) (.cons (t2033 C) (.cons (t2071 C) (.cons (t2101 C) .nil)))))))) (by kernel_rfl)
def a17383 : Ans := ⟨n_cohe_Is, [v309, v50], .b true⟩
theorem t17383 (C : VCode V) : VA V a17383 := VA_of (envOk C) C.c_cohe_Is.1 C.c_cohe_Is.2 (O := [a17381, a2106]) (.cons (t17381 C) (.cons (t2106 C) .nil)) (by kernel_rfl)
def v313 : VV := .ag [.i .i64 4, .ls [[.s ⟨⟨[120]⟩⟩]], .ls [[.ls [[.s ⟨⟨[97]⟩⟩]]], [.ls [[.s ⟨⟨[97]⟩⟩]]]], v308, v40, v49, .ls [[.ls [[.i .i64 0], [.i .i64 3], [.i .i64 12]]]], v46]
def a17387 : Ans := ⟨n_exec_run_atomic, [v313], .b false⟩
theorem t17387 (C : VCode V) : VA V a17387 := VA_of (envOk C) C.c_exec_run_atomic.1 C.c_exec_run_atomic.2 (O := [a2114]) (.cons (t2114 C) .nil) (by kernel_rfl)
def a17388 : Ans := ⟨n_exec_Atomic, [v309, v50], .b false⟩
theorem t17388 (C : VCode V) : VA V a17388 := VA_of (envOk C) C.c_exec_Atomic.1 C.c_exec_Atomic.2 (O := [a17383, a17381, a17387]) (.cons (t17383 C) (.cons (t17381 C) (.cons (t17387 C) .nil))) (by kernel_rfl)
def a17390 : Ans := ⟨n_cohe_Is, [v309, v52], .b true⟩
theorem t17390 (C : VCode V) : VA V a17390 := VA_of (envOk C) C.c_cohe_Is.1 C.c_cohe_Is.2 (O := [a17381, a2119]) (.cons (t17381 C) (.cons (t2119 C) .nil)) (by kernel_rfl)
def v314 : VV := .ag [.i .i64 4, .ls [[.s ⟨⟨[120]⟩⟩]], .ls [[.ls [[.s ⟨⟨[97]⟩⟩]]], [.ls [[.s ⟨⟨[97]⟩⟩]]]], v308, v40, v49, .ls [[.ls [[.i .i64 0], [.i .i64 12], [.i .i64 3]]]], v46]
def a17393 : Ans := ⟨n_exec_run_atomic, [v314], .b false⟩
theorem t17393 (C : VCode V) : VA V a17393 := VA_of (envOk C) C.c_exec_run_atomic.1 C.c_exec_run_atomic.2 (O := []) .nil (by kernel_rfl)
def a17394 : Ans := ⟨n_exec_Atomic, [v309, v52], .b false⟩
theorem t17394 (C : VCode V) : VA V a17394 := VA_of (envOk C) C.c_exec_Atomic.1 C.c_exec_Atomic.2 (O := [a17390, a17381, a17393]) (.cons (t17390 C) (.cons (t17381 C) (.cons (t17393 C) .nil))) (by kernel_rfl)
def v315 : VV := .fp [.i .i64 4, .ls [[.s ⟨⟨[120]⟩⟩]], .ls [[.ls [[.s ⟨⟨[97]⟩⟩]]], [.ls [[.s ⟨⟨[97]⟩⟩]]]], v308] 0
def v316 : VV := .fp [.i .i64 4, .ls [[.s ⟨⟨[120]⟩⟩]], .ls [[.ls [[.s ⟨⟨[97]⟩⟩]]], [.ls [[.s ⟨⟨[97]⟩⟩]]]], v308, v40, v49, .ls [[.ls [[.i .i64 0], [.i .i64 3], [.i .i64 12]]]]] 0
def a17399 : Ans := ⟨n_cohe_Exec_1, [.i .i64 2, v315, v316], .i .i64 0⟩
theorem t17399 (C : VCode V) : VA V a17399 := VA_of (envOk C) C.c_cohe_Exec_1.1 C.c_cohe_Exec_1.2 (O := []) .nil (by kernel_rfl)
def a17401 : Ans := ⟨n_cohe_Exec_1, [.i .i64 3, v315, v316], .i .i64 1⟩
theorem t17401 (C : VCode V) : VA V a17401 := VA_of (envOk C) C.c_cohe_Exec_1.1 C.c_cohe_Exec_1.2 (O := []) .nil (by kernel_rfl)
def a17404 : Ans := ⟨n_cohe_Exec_1, [.i .i64 11, v315, v316], .i .i64 0⟩
theorem t17404 (C : VCode V) : VA V a17404 := VA_of (envOk C) C.c_cohe_Exec_1.1 C.c_cohe_Exec_1.2 (O := [a2114]) (.cons (t2114 C) .nil) (by kernel_rfl)
def a17406 : Ans := ⟨n_cohe_Exec_1, [.i .i64 12, v315, v316], .i .i64 2⟩
theorem t17406 (C : VCode V) : VA V a17406 := VA_of (envOk C) C.c_cohe_Exec_1.1 C.c_cohe_Exec_1.2 (O := []) .nil (by kernel_rfl)
def a17409 : Ans := ⟨n_exec_Good, [v309, v50], .b false⟩
theorem t17409 (C : VCode V) : VA V a17409 := VA_of (envOk C) C.c_exec_Good.1 C.c_exec_Good.2 (O := [a17383, a17381, a17383, a17381, a2140, a17399, a2148, a17401, a14299, a17404, a2159, a17406, a5206, a17399, a17401, a17399, a17401, a14307, a17404, a17406, a17404, a17406, a5209, a17387]) (.cons (t17383 C) (.cons (t17381 C) (.cons (t17383 C) (.cons (t17381 C) (.cons (t2140 C) (.cons (t17399 C) (.cons (t2148 C) (.cons (t17401 C) (.cons (t14299 C) (.cons (t17404 C) (.cons (t2159 C) (.cons (t17406 C) (.cons (t5206 C) (.cons (t17399 C) (.cons (t17401 C) (.cons (t17399 C) (.cons (t17401 C) (.cons (t14307 C) (.cons (t17404 C) (.cons (t17406 C) (.cons (t17404 C) (.cons (t17406 C) (.cons (t5209 C) (.cons (t17387 C) .nil)))))))))))))))))))))))) (by kernel_rfl)
def v317 : VV := .fp [.i .i64 4, .ls [[.s ⟨⟨[120]⟩⟩]], .ls [[.ls [[.s ⟨⟨[97]⟩⟩]]], [.ls [[.s ⟨⟨[97]⟩⟩]]]], v308, v40, v49, .ls [[.ls [[.i .i64 0], [.i .i64 12], [.i .i64 3]]]]] 0
def a17414 : Ans := ⟨n_cohe_Exec_1, [.i .i64 2, v315, v317], .i .i64 0⟩
theorem t17414 (C : VCode V) : VA V a17414 := VA_of (envOk C) C.c_cohe_Exec_1.1 C.c_cohe_Exec_1.2 (O := []) .nil (by kernel_rfl)
def a17416 : Ans := ⟨n_cohe_Exec_1, [.i .i64 3, v315, v317], .i .i64 2⟩
theorem t17416 (C : VCode V) : VA V a17416 := VA_of (envOk C) C.c_cohe_Exec_1.1 C.c_cohe_Exec_1.2 (O := []) .nil (by kernel_rfl)
def a17419 : Ans := ⟨n_cohe_Exec_1, [.i .i64 11, v315, v317], .i .i64 0⟩
theorem t17419 (C : VCode V) : VA V a17419 := VA_of (envOk C) C.c_cohe_Exec_1.1 C.c_cohe_Exec_1.2 (O := [a2114]) (.cons (t2114 C) .nil) (by kernel_rfl)
def a17421 : Ans := ⟨n_cohe_Exec_1, [.i .i64 12, v315, v317], .i .i64 1⟩
theorem t17421 (C : VCode V) : VA V a17421 := VA_of (envOk C) C.c_cohe_Exec_1.1 C.c_cohe_Exec_1.2 (O := []) .nil (by kernel_rfl)
def a17424 : Ans := ⟨n_exec_Good, [v309, v52], .b false⟩
theorem t17424 (C : VCode V) : VA V a17424 := VA_of (envOk C) C.c_exec_Good.1 C.c_exec_Good.2 (O := [a17390, a17381, a17390, a17381, a2140, a17414, a2148, a17416, a14320, a17419, a2159, a17421, a5227, a17414, a17416, a17414, a17416, a14328, a17419, a17421, a17419, a17421, a5230, a17393]) (.cons (t17390 C) (.cons (t17381 C) (.cons (t17390 C) (.cons (t17381 C) (.cons (t2140 C) (.cons (t17414 C) (.cons (t2148 C) (.cons (t17416 C) (.cons (t14320 C) (.cons (t17419 C) (.cons (t2159 C) (.cons (t17421 C) (.cons (t5227 C) (.cons (t17414 C) (.cons (t17416 C) (.cons (t17414 C) (.cons (t17416 C) (.cons (t14328 C) (.cons (t17419 C) (.cons (t17421 C) (.cons (t17419 C) (.cons (t17421 C) (.cons (t5230 C) (.cons (t17393 C) .nil)))))))))))))))))))))))) (by kernel_rfl)
def a17447 : Ans := ⟨n_sync_Hb, [v309, v266, v63], v267⟩
theorem t17447 (C : VCode V) : VA V a17447 := VA_of (envOk C) C.c_sync_Hb.1 C.c_sync_Hb.2 (O := [a16644, a14332, a1097, a17369, a14380, a14388, a14388, a14433, a14461]) (.cons (t16644 C) (.cons (t14332 C) (.cons (t1097 C) (.cons (t17369 C) (.cons (t14380 C) (.cons (t14388 C) (.cons (t14388 C) (.cons (t14433 C) (.cons (t14461 C) .nil))))))))) (by kernel_rfl)
def a17449 : Ans := ⟨n_cohe_Is, [v309, v269], .b true⟩
theorem t17449 (C : VCode V) : VA V a17449 := VA_of (envOk C) C.c_cohe_Is.1 C.c_cohe_Is.2 (O := [a17447, a14466]) (.cons (t17447 C) (.cons (t14466 C) .nil)) (by kernel_rfl)
def v318 : VV := .ag [.i .i64 4, .ls [[.s ⟨⟨[120]⟩⟩]], .ls [[.ls [[.s ⟨⟨[97]⟩⟩]]], [.ls [[.s ⟨⟨[97]⟩⟩]]]], v308, v266, v63, .ls [[.ls [[.i .i64 0], [.i .i64 3], [.i .i64 18]]]], v267]
def a17453 : Ans := ⟨n_exec_run_atomic, [v318], .b true⟩
theorem t17453 (C : VCode V) : VA V a17453 := VA_of (envOk C) C.c_exec_run_atomic.1 C.c_exec_run_atomic.2 (O := [a14474]) (.cons (t14474 C) .nil) (by kernel_rfl)
def a17454 : Ans := ⟨n_exec_Atomic, [v309, v269], .b true⟩
theorem t17454 (C : VCode V) : VA V a17454 := VA_of (envOk C) C.c_exec_Atomic.1 C.c_exec_Atomic.2 (O := [a17449, a17447, a17453]) (.cons (t17449 C) (.cons (t17447 C) (.cons (t17453 C) .nil))) (by kernel_rfl)
def v319 : VV := .fp [.i .i64 4, .ls [[.s ⟨⟨[120]⟩⟩]], .ls [[.ls [[.s ⟨⟨[97]⟩⟩]]], [.ls [[.s ⟨⟨[97]⟩⟩]]]], v308, v266, v63, .ls [[.ls [[.i .i64 0], [.i .i64 3], [.i .i64 18]]]]] 0
def a17459 : Ans := ⟨n_cohe_Exec_1, [.i .i64 2, v315, v319], .i .i64 0⟩
theorem t17459 (C : VCode V) : VA V a17459 := VA_of (envOk C) C.c_cohe_Exec_1.1 C.c_cohe_Exec_1.2 (O := []) .nil (by kernel_rfl)
def a17461 : Ans := ⟨n_cohe_Exec_1, [.i .i64 3, v315, v319], .i .i64 1⟩
theorem t17461 (C : VCode V) : VA V a17461 := VA_of (envOk C) C.c_cohe_Exec_1.1 C.c_cohe_Exec_1.2 (O := []) .nil (by kernel_rfl)
def a17464 : Ans := ⟨n_cohe_Exec_1, [.i .i64 17, v315, v319], .i .i64 1⟩
theorem t17464 (C : VCode V) : VA V a17464 := VA_of (envOk C) C.c_cohe_Exec_1.1 C.c_cohe_Exec_1.2 (O := [a14474]) (.cons (t14474 C) .nil) (by kernel_rfl)
def a17466 : Ans := ⟨n_cohe_Exec_1, [.i .i64 18, v315, v319], .i .i64 2⟩
theorem t17466 (C : VCode V) : VA V a17466 := VA_of (envOk C) C.c_cohe_Exec_1.1 C.c_cohe_Exec_1.2 (O := []) .nil (by kernel_rfl)
def a17476 : Ans := ⟨n_exec_run_behind, [v318, .i .i64 0], .i .u64 262152⟩
theorem t17476 (C : VCode V) : VA V a17476 := VA_of (envOk C) C.c_exec_run_behind.1 C.c_exec_run_behind.2 (O := []) .nil (by kernel_rfl)
def a17488 : Ans := ⟨n_exec_run_behind, [v318, .i .i64 3], .i .u64 262144⟩
theorem t17488 (C : VCode V) : VA V a17488 := VA_of (envOk C) C.c_exec_run_behind.1 C.c_exec_run_behind.2 (O := []) .nil (by kernel_rfl)
def a17514 : Ans := ⟨n_exec_Good, [v309, v269], .b true⟩
theorem t17514 (C : VCode V) : VA V a17514 := VA_of (envOk C) C.c_exec_Good.1 C.c_exec_Good.2 (O := [a17449, a17447, a17449, a17447, a14482, a17459, a2148, a17461, a14299, a17464, a14495, a17466, a17459, a17461, a17459, a17461, a14307, a17464, a17466, a17464, a17466, a17453, a17476, a17476, a17488, a14474, a17488, a14541, a14586, a14617, a14619, a2383]) (.cons (t17449 C) (.cons (t17447 C) (.cons (t17449 C) (.cons (t17447 C) (.cons (t14482 C) (.cons (t17459 C) (.cons (t2148 C) (.cons (t17461 C) (.cons (t14299 C) (.cons (t17464 C) (.cons (t14495 C) (.cons (t17466 C) (.cons (t17459 C) (.cons (t17461 C) (.cons (t17459 C) (.cons (t17461 C) (.cons (t14307 C) (.cons (t17464 C) (.cons (t17466 C) (.cons (t17464 C) (.cons (t17466 C) (.cons (t17453 C) (.cons (t17476 C) (.cons (t17476 C) (.cons (t17488 C) (.cons (t14474 C) (.cons (t17488 C) (.cons (t14541 C) (.cons (t14586 C) (.cons (t14617 C) (.cons (t14619 C) (.cons (t2383 C) .nil)))))))))))))))))))))))))))))))) (by kernel_rfl)
def a17523 : Ans := ⟨n_witheref17_ExecForm, [v309, v269], .b true⟩
theorem t17523 (C : VCode V) : VA V a17523 := VA_of (envOk C) C.c_witheref17_ExecForm.1 C.c_witheref17_ExecForm.2 (O := [a14641]) (.cons (t14641 C) .nil) (by kernel_rfl)
end
end Go.AM
