/-
  Certificates: what calls answer, each carried out by the kernel.
-/
import Derived.Test.YtgenbmicpdkhlaaGreatDoorCeE
import Derived.KernelRfl
import Derived.Test.YtgenbmicpdkhlaaGreatDoorCe0
import Derived.Test.YtgenbmicpdkhlaaGreatDoorCe1
import Derived.Test.YtgenbmicpdkhlaaGreatDoorCe3
import Derived.Test.YtgenbmicpdkhlaaGreatDoorCe4
import Derived.Test.YtgenbmicpdkhlaaGreatDoorCe13
set_option linter.unusedVariables false
set_option linter.unusedSimpArgs false
set_option linter.unusedSectionVars false
set_option linter.unnecessarySimpa false
set_option maxRecDepth 1000000
set_option maxHeartbeats 4000000
namespace Go.AM
section
variable {V : VProg}
def v292 : VV := .ls [[v103], [v87]]
def v293 : VV := .ag [.s ⟨⟨[97]⟩⟩, .i .i64 4, .ls [[.s ⟨⟨[120]⟩⟩, .i .i64 0]], v292, .i .i64 1, .i .i64 1, .i .i64 0, .s ⟨⟨[120]⟩⟩, .i .i64 0, .ls []]
def v294 : VV := .ls [[.i .i64 (-1), .i .i64 (-1), .i .i64 3, .i .i64 0, .i .i64 0, .i .i64 0, .b false, .b false, .ls []], [.i .i64 0, .i .i64 (-1), .i .i64 1, .i .i64 0, .i .i64 0, .i .i64 0, .b false, .b false, .ls []], [.i .i64 0, .i .i64 1, .i .i64 2, .i .i64 0, .i .i64 0, .i .i64 0, .b false, .b false, .ls []], [.i .i64 0, .i .i64 2, .i .i64 3, .i .i64 0, .i .i64 0, .i .i64 3, .b true, .b true, .ls [[.i .i64 0]]], [.i .i64 0, .i .i64 1, .i .i64 2, .i .i64 0, .i .i64 0, .i .i64 1, .b false, .b false, .ls []], [.i .i64 0, .i .i64 4, .i .i64 3, .i .i64 0, .i .i64 0, .i .i64 0, .b true, .b true, .ls [[.i .i64 1]]], [.i .i64 0, .i .i64 1, .i .i64 2, .i .i64 0, .i .i64 0, .i .i64 2, .b false, .b false, .ls []], [.i .i64 0, .i .i64 6, .i .i64 3, .i .i64 0, .i .i64 0, .i .i64 1, .b true, .b true, .ls [[.i .i64 2]]], [.i .i64 0, .i .i64 1, .i .i64 2, .i .i64 0, .i .i64 0, .i .i64 3, .b false, .b false, .ls []], [.i .i64 0, .i .i64 8, .i .i64 3, .i .i64 0, .i .i64 0, .i .i64 2, .b true, .b true, .ls [[.i .i64 3]]], [.i .i64 1, .i .i64 (-1), .i .i64 1, .i .i64 0, .i .i64 0, .i .i64 0, .b false, .b false, .ls []], [.i .i64 1, .i .i64 10, .i .i64 2, .i .i64 0, .i .i64 0, .i .i64 0, .b false, .b false, .ls []], [.i .i64 1, .i .i64 11, .i .i64 3, .i .i64 0, .i .i64 0, .i .i64 2, .b true, .b true, .ls [[.i .i64 0]]], [.i .i64 1, .i .i64 10, .i .i64 2, .i .i64 0, .i .i64 0, .i .i64 1, .b false, .b false, .ls []], [.i .i64 1, .i .i64 13, .i .i64 3, .i .i64 0, .i .i64 0, .i .i64 3, .b true, .b true, .ls [[.i .i64 1]]], [.i .i64 1, .i .i64 10, .i .i64 2, .i .i64 0, .i .i64 0, .i .i64 2, .b false, .b false, .ls []], [.i .i64 1, .i .i64 15, .i .i64 3, .i .i64 0, .i .i64 0, .i .i64 0, .b true, .b true, .ls [[.i .i64 2]]], [.i .i64 1, .i .i64 10, .i .i64 2, .i .i64 0, .i .i64 0, .i .i64 3, .b false, .b false, .ls []], [.i .i64 1, .i .i64 17, .i .i64 3, .i .i64 0, .i .i64 0, .i .i64 1, .b true, .b true, .ls [[.i .i64 3]]]]
def v295 : VV := .ag [.i .i64 4, .ls [[.s ⟨⟨[120]⟩⟩]], .ls [[.ls [[.s ⟨⟨[97]⟩⟩]]], [.ls [[.s ⟨⟨[97]⟩⟩]]]], v294]
def v296 : VV := .tu [v295, .b true]
def a15608 : Ans := ⟨n_withemade_Tree, [v293], v296⟩
theorem t15608 (C : VCode V) : VA V a15608 := VA_of (envOk C) C.c_withemade_Tree.1 C.c_withemade_Tree.2 (O := [a27, a9, a27, a4356, a27, a3379, a1002, a4359, a3382, a4362, a4362, a4362, a4362, a3385, a3385, a3385, a3385]) (.cons (t27 C) (.cons (t9 C) (.cons (t27 C) (.cons (t4356 C) (.cons (t27 C) (.cons (t3379 C) (.cons (t1002 C) (.cons (t4359 C) (.cons (t3382 C) (.cons (t4362 C) (.cons (t4362 C) (.cons (t4362 C) (.cons (t4362 C) (.cons (t3385 C) (.cons (t3385 C) (.cons (t3385 C) (.cons (t3385 C) .nil))))))))))))))))) (by kernel_rfl)
def a15684 : Ans := ⟨n_lts_May, [v295], .b true⟩
theorem t15684 (C : VCode V) : VA V a15684 := VA_of (envOk C) C.c_lts_May.1 C.c_lts_May.2 (O := []) .nil (by kernel_rfl)
def v297 : VV := .ag [.i .i64 4, .ls [[.s ⟨⟨[120]⟩⟩]], .ls [[.ls [[.s ⟨⟨[97]⟩⟩]]], [.ls [[.s ⟨⟨[97]⟩⟩]]]], v294, v41, v42]
def v298 : VV := .f n_tree_deep_before [v297] []
def a16408 : Ans := ⟨n_tree_deep_rows, [v297, v298], v45⟩
theorem t16408 (C : VCode V) : VA V a16408 := VA_of (envOk C) C.c_tree_deep_rows.1 C.c_tree_deep_rows.2 (O := []) .nil (by kernel_rfl)
def a16409 : Ans := ⟨n_tree_Po, [v295], v45⟩
theorem t16409 (C : VCode V) : VA V a16409 := VA_of (envOk C) C.c_tree_Po.1 C.c_tree_Po.2 (O := [a15684, a16408]) (.cons (t15684 C) (.cons (t16408 C) .nil)) (by kernel_rfl)
def a16421 : Ans := ⟨n_sync_Hb, [v295, v40, v49], v46⟩
theorem t16421 (C : VCode V) : VA V a16421 := VA_of (envOk C) C.c_sync_Hb.1 C.c_sync_Hb.2 (O := [a15684, a1095, a1097, a16409, a2025, a2033, a2071, a2101]) (.cons (t15684 C) (.cons (t1095 C) (.cons (t1097 C) (.cons (t16409 C) (.cons (t2025 C) (.cons (t2033 C) (.cons (t2071 C) (.cons (t2101 C) .nil)))))))) (by kernel_rfl)
def a16423 : Ans := ⟨n_cohe_Is, [v295, v50], .b true⟩
theorem t16423 (C : VCode V) : VA V a16423 := VA_of (envOk C) C.c_cohe_Is.1 C.c_cohe_Is.2 (O := [a16421, a2106]) (.cons (t16421 C) (.cons (t2106 C) .nil)) (by kernel_rfl)
def v299 : VV := .ag [.i .i64 4, .ls [[.s ⟨⟨[120]⟩⟩]], .ls [[.ls [[.s ⟨⟨[97]⟩⟩]]], [.ls [[.s ⟨⟨[97]⟩⟩]]]], v294, v40, v49, .ls [[.ls [[.i .i64 0], [.i .i64 3], [.i .i64 12]]]], v46]
def a16427 : Ans := ⟨n_exec_run_atomic, [v299], .b false⟩
theorem t16427 (C : VCode V) : VA V a16427 := VA_of (envOk C) C.c_exec_run_atomic.1 C.c_exec_run_atomic.2 (O := [a2114]) (.cons (t2114 C) .nil) (by kernel_rfl)
def a16428 : Ans := ⟨n_exec_Atomic, [v295, v50], .b false⟩
theorem t16428 (C : VCode V) : VA V a16428 := VA_of (envOk C) C.c_exec_Atomic.1 C.c_exec_Atomic.2 (O := [a16423, a16421, a16427]) (.cons (t16423 C) (.cons (t16421 C) (.cons (t16427 C) .nil))) (by kernel_rfl)
def a16430 : Ans := ⟨n_cohe_Is, [v295, v52], .b true⟩
theorem t16430 (C : VCode V) : VA V a16430 := VA_of (envOk C) C.c_cohe_Is.1 C.c_cohe_Is.2 (O := [a16421, a2119]) (.cons (t16421 C) (.cons (t2119 C) .nil)) (by kernel_rfl)
def v300 : VV := .ag [.i .i64 4, .ls [[.s ⟨⟨[120]⟩⟩]], .ls [[.ls [[.s ⟨⟨[97]⟩⟩]]], [.ls [[.s ⟨⟨[97]⟩⟩]]]], v294, v40, v49, .ls [[.ls [[.i .i64 0], [.i .i64 12], [.i .i64 3]]]], v46]
def a16433 : Ans := ⟨n_exec_run_atomic, [v300], .b false⟩
theorem t16433 (C : VCode V) : VA V a16433 := VA_of (envOk C) C.c_exec_run_atomic.1 C.c_exec_run_atomic.2 (O := []) .nil (by kernel_rfl)
def a16434 : Ans := ⟨n_exec_Atomic, [v295, v52], .b false⟩
theorem t16434 (C : VCode V) : VA V a16434 := VA_of (envOk C) C.c_exec_Atomic.1 C.c_exec_Atomic.2 (O := [a16430, a16421, a16433]) (.cons (t16430 C) (.cons (t16421 C) (.cons (t16433 C) .nil))) (by kernel_rfl)
def v301 : VV := .fp [.i .i64 4, .ls [[.s ⟨⟨[120]⟩⟩]], .ls [[.ls [[.s ⟨⟨[97]⟩⟩]]], [.ls [[.s ⟨⟨[97]⟩⟩]]]], v294] 0
def v302 : VV := .fp [.i .i64 4, .ls [[.s ⟨⟨[120]⟩⟩]], .ls [[.ls [[.s ⟨⟨[97]⟩⟩]]], [.ls [[.s ⟨⟨[97]⟩⟩]]]], v294, v40, v49, .ls [[.ls [[.i .i64 0], [.i .i64 3], [.i .i64 12]]]]] 0
def a16439 : Ans := ⟨n_cohe_Exec_1, [.i .i64 2, v301, v302], .i .i64 0⟩
theorem t16439 (C : VCode V) : VA V a16439 := VA_of (envOk C) C.c_cohe_Exec_1.1 C.c_cohe_Exec_1.2 (O := []) .nil (by kernel_rfl)
def a16441 : Ans := ⟨n_cohe_Exec_1, [.i .i64 3, v301, v302], .i .i64 1⟩
theorem t16441 (C : VCode V) : VA V a16441 := VA_of (envOk C) C.c_cohe_Exec_1.1 C.c_cohe_Exec_1.2 (O := []) .nil (by kernel_rfl)
def a16444 : Ans := ⟨n_cohe_Exec_1, [.i .i64 11, v301, v302], .i .i64 0⟩
theorem t16444 (C : VCode V) : VA V a16444 := VA_of (envOk C) C.c_cohe_Exec_1.1 C.c_cohe_Exec_1.2 (O := [a2114]) (.cons (t2114 C) .nil) (by kernel_rfl)
def a16446 : Ans := ⟨n_cohe_Exec_1, [.i .i64 12, v301, v302], .i .i64 2⟩
theorem t16446 (C : VCode V) : VA V a16446 := VA_of (envOk C) C.c_cohe_Exec_1.1 C.c_cohe_Exec_1.2 (O := []) .nil (by kernel_rfl)
def a16449 : Ans := ⟨n_exec_Good, [v295, v50], .b false⟩
theorem t16449 (C : VCode V) : VA V a16449 := VA_of (envOk C) C.c_exec_Good.1 C.c_exec_Good.2 (O := [a16423, a16421, a16423, a16421, a2140, a16439, a2148, a16441, a14299, a16444, a2159, a16446, a4229, a16439, a16441, a16439, a16441, a14307, a16444, a16446, a16444, a16446, a4232, a16427]) (.cons (t16423 C) (.cons (t16421 C) (.cons (t16423 C) (.cons (t16421 C) (.cons (t2140 C) (.cons (t16439 C) (.cons (t2148 C) (.cons (t16441 C) (.cons (t14299 C) (.cons (t16444 C) (.cons (t2159 C) (.cons (t16446 C) (.cons (t4229 C) (.cons (t16439 C) (.cons (t16441 C) (.cons (t16439 C) (.cons (t16441 C) (.cons (t14307 C) (.cons (t16444 C) (.cons (t16446 C) (.cons (t16444 C) (.cons (t16446 C) (.cons (t4232 C) (.cons (t16427 C) .nil)))))))))))))))))))))))) (by kernel_rfl)
def v303 : VV := .fp [.i .i64 4, .ls [[.s ⟨⟨[120]⟩⟩]], .ls [[.ls [[.s ⟨⟨[97]⟩⟩]]], [.ls [[.s ⟨⟨[97]⟩⟩]]]], v294, v40, v49, .ls [[.ls [[.i .i64 0], [.i .i64 12], [.i .i64 3]]]]] 0
def a16454 : Ans := ⟨n_cohe_Exec_1, [.i .i64 2, v301, v303], .i .i64 0⟩
theorem t16454 (C : VCode V) : VA V a16454 := VA_of (envOk C) C.c_cohe_Exec_1.1 C.c_cohe_Exec_1.2 (O := []) .nil (by kernel_rfl)
def a16456 : Ans := ⟨n_cohe_Exec_1, [.i .i64 3, v301, v303], .i .i64 2⟩
theorem t16456 (C : VCode V) : VA V a16456 := VA_of (envOk C) C.c_cohe_Exec_1.1 C.c_cohe_Exec_1.2 (O := []) .nil (by kernel_rfl)
def a16459 : Ans := ⟨n_cohe_Exec_1, [.i .i64 11, v301, v303], .i .i64 0⟩
theorem t16459 (C : VCode V) : VA V a16459 := VA_of (envOk C) C.c_cohe_Exec_1.1 C.c_cohe_Exec_1.2 (O := [a2114]) (.cons (t2114 C) .nil) (by kernel_rfl)
def a16461 : Ans := ⟨n_cohe_Exec_1, [.i .i64 12, v301, v303], .i .i64 1⟩
theorem t16461 (C : VCode V) : VA V a16461 := VA_of (envOk C) C.c_cohe_Exec_1.1 C.c_cohe_Exec_1.2 (O := []) .nil (by kernel_rfl)
def a16464 : Ans := ⟨n_exec_Good, [v295, v52], .b false⟩
theorem t16464 (C : VCode V) : VA V a16464 := VA_of (envOk C) C.c_exec_Good.1 C.c_exec_Good.2 (O := [a16430, a16421, a16430, a16421, a2140, a16454, a2148, a16456, a14320, a16459, a2159, a16461, a4250, a16454, a16456, a16454, a16456, a14328, a16459, a16461, a16459, a16461, a4253, a16433]) (.cons (t16430 C) (.cons (t16421 C) (.cons (t16430 C) (.cons (t16421 C) (.cons (t2140 C) (.cons (t16454 C) (.cons (t2148 C) (.cons (t16456 C) (.cons (t14320 C) (.cons (t16459 C) (.cons (t2159 C) (.cons (t16461 C) (.cons (t4250 C) (.cons (t16454 C) (.cons (t16456 C) (.cons (t16454 C) (.cons (t16456 C) (.cons (t14328 C) (.cons (t16459 C) (.cons (t16461 C) (.cons (t16459 C) (.cons (t16461 C) (.cons (t4253 C) (.cons (t16433 C) .nil)))))))))))))))))))))))) (by kernel_rfl)
def a16487 : Ans := ⟨n_sync_Hb, [v295, v266, v63], v267⟩
theorem t16487 (C : VCode V) : VA V a16487 := VA_of (envOk C) C.c_sync_Hb.1 C.c_sync_Hb.2 (O := [a15684, a14332, a1097, a16409, a14380, a14388, a14388, a14433, a14461]) (.cons (t15684 C) (.cons (t14332 C) (.cons (t1097 C) (.cons (t16409 C) (.cons (t14380 C) (.cons (t14388 C) (.cons (t14388 C) (.cons (t14433 C) (.cons (t14461 C) .nil))))))))) (by kernel_rfl)
def a16489 : Ans := ⟨n_cohe_Is, [v295, v269], .b true⟩
theorem t16489 (C : VCode V) : VA V a16489 := VA_of (envOk C) C.c_cohe_Is.1 C.c_cohe_Is.2 (O := [a16487, a14466]) (.cons (t16487 C) (.cons (t14466 C) .nil)) (by kernel_rfl)
def v304 : VV := .ag [.i .i64 4, .ls [[.s ⟨⟨[120]⟩⟩]], .ls [[.ls [[.s ⟨⟨[97]⟩⟩]]], [.ls [[.s ⟨⟨[97]⟩⟩]]]], v294, v266, v63, .ls [[.ls [[.i .i64 0], [.i .i64 3], [.i .i64 18]]]], v267]
def a16493 : Ans := ⟨n_exec_run_atomic, [v304], .b true⟩
theorem t16493 (C : VCode V) : VA V a16493 := VA_of (envOk C) C.c_exec_run_atomic.1 C.c_exec_run_atomic.2 (O := [a14474]) (.cons (t14474 C) .nil) (by kernel_rfl)
def a16494 : Ans := ⟨n_exec_Atomic, [v295, v269], .b true⟩
theorem t16494 (C : VCode V) : VA V a16494 := VA_of (envOk C) C.c_exec_Atomic.1 C.c_exec_Atomic.2 (O := [a16489, a16487, a16493]) (.cons (t16489 C) (.cons (t16487 C) (.cons (t16493 C) .nil))) (by kernel_rfl)
def v305 : VV := .fp [.i .i64 4, .ls [[.s ⟨⟨[120]⟩⟩]], .ls [[.ls [[.s ⟨⟨[97]⟩⟩]]], [.ls [[.s ⟨⟨[97]⟩⟩]]]], v294, v266, v63, .ls [[.ls [[.i .i64 0], [.i .i64 3], [.i .i64 18]]]]] 0
def a16499 : Ans := ⟨n_cohe_Exec_1, [.i .i64 2, v301, v305], .i .i64 0⟩
theorem t16499 (C : VCode V) : VA V a16499 := VA_of (envOk C) C.c_cohe_Exec_1.1 C.c_cohe_Exec_1.2 (O := []) .nil (by kernel_rfl)
def a16501 : Ans := ⟨n_cohe_Exec_1, [.i .i64 3, v301, v305], .i .i64 1⟩
theorem t16501 (C : VCode V) : VA V a16501 := VA_of (envOk C) C.c_cohe_Exec_1.1 C.c_cohe_Exec_1.2 (O := []) .nil (by kernel_rfl)
def a16504 : Ans := ⟨n_cohe_Exec_1, [.i .i64 17, v301, v305], .i .i64 1⟩
theorem t16504 (C : VCode V) : VA V a16504 := VA_of (envOk C) C.c_cohe_Exec_1.1 C.c_cohe_Exec_1.2 (O := [a14474]) (.cons (t14474 C) .nil) (by kernel_rfl)
def a16506 : Ans := ⟨n_cohe_Exec_1, [.i .i64 18, v301, v305], .i .i64 2⟩
theorem t16506 (C : VCode V) : VA V a16506 := VA_of (envOk C) C.c_cohe_Exec_1.1 C.c_cohe_Exec_1.2 (O := []) .nil (by kernel_rfl)
def a16516 : Ans := ⟨n_exec_run_behind, [v304, .i .i64 0], .i .u64 262152⟩
theorem t16516 (C : VCode V) : VA V a16516 := VA_of (envOk C) C.c_exec_run_behind.1 C.c_exec_run_behind.2 (O := []) .nil (by kernel_rfl)
def a16528 : Ans := ⟨n_exec_run_behind, [v304, .i .i64 3], .i .u64 262144⟩
theorem t16528 (C : VCode V) : VA V a16528 := VA_of (envOk C) C.c_exec_run_behind.1 C.c_exec_run_behind.2 (O := []) .nil (by kernel_rfl)
def a16554 : Ans := ⟨n_exec_Good, [v295, v269], .b true⟩
theorem t16554 (C : VCode V) : VA V a16554 := VA_of (envOk C) C.c_exec_Good.1 C.c_exec_Good.2 (O := [a16489, a16487, a16489, a16487, a14482, a16499, a2148, a16501, a14299, a16504, a14495, a16506, a16499, a16501, a16499, a16501, a14307, a16504, a16506, a16504, a16506, a16493, a16516, a16516, a16528, a14474, a16528, a14541, a14586, a14617, a14619, a2383]) (.cons (t16489 C) (.cons (t16487 C) (.cons (t16489 C) (.cons (t16487 C) (.cons (t14482 C) (.cons (t16499 C) (.cons (t2148 C) (.cons (t16501 C) (.cons (t14299 C) (.cons (t16504 C) (.cons (t14495 C) (.cons (t16506 C) (.cons (t16499 C) (.cons (t16501 C) (.cons (t16499 C) (.cons (t16501 C) (.cons (t14307 C) (.cons (t16504 C) (.cons (t16506 C) (.cons (t16504 C) (.cons (t16506 C) (.cons (t16493 C) (.cons (t16516 C) (.cons (t16516 C) (.cons (t16528 C) (.cons (t14474 C) (.cons (t16528 C) (.cons (t14541 C) (.cons (t14586 C) (.cons (t14617 C) (.cons (t14619 C) (.cons (t2383 C) .nil)))))))))))))))))))))))))))))))) (by kernel_rfl)
def a16563 : Ans := ⟨n_witheref17_ExecForm, [v295, v269], .b true⟩
theorem t16563 (C : VCode V) : VA V a16563 := VA_of (envOk C) C.c_witheref17_ExecForm.1 C.c_witheref17_ExecForm.2 (O := [a14641]) (.cons (t14641 C) .nil) (by kernel_rfl)
end
end Go.AM
