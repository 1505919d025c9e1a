/-
  The law ExecAtomic on the machine of values, for every input.
-/
import Derived.Test.YtgenbmicpdkhlaaGreatDoorBody
import Derived.Test.YtgenbmicpdkhlaaGreatDoorCe0
import Derived.Test.YtgenbmicpdkhlaaGreatDoorCe1
import Derived.Test.YtgenbmicpdkhlaaGreatDoorCe2
import Derived.Test.YtgenbmicpdkhlaaGreatDoorCe3
import Derived.Test.YtgenbmicpdkhlaaGreatDoorCe4
import Derived.Test.YtgenbmicpdkhlaaGreatDoorCe5
import Derived.Test.YtgenbmicpdkhlaaGreatDoorCe6
import Derived.Test.YtgenbmicpdkhlaaGreatDoorCe7
import Derived.Test.YtgenbmicpdkhlaaGreatDoorCe8
import Derived.Test.YtgenbmicpdkhlaaGreatDoorCe9
import Derived.Test.YtgenbmicpdkhlaaGreatDoorCe10
import Derived.Test.YtgenbmicpdkhlaaGreatDoorCe11
import Derived.Test.YtgenbmicpdkhlaaGreatDoorCe12
import Derived.Test.YtgenbmicpdkhlaaGreatDoorCe13
import Derived.Test.YtgenbmicpdkhlaaGreatDoorCe14
import Derived.Test.YtgenbmicpdkhlaaGreatDoorCe15
import Derived.Test.YtgenbmicpdkhlaaGreatDoorCe16
set_option linter.unusedVariables false
set_option linter.unusedSimpArgs false
set_option linter.unusedSectionVars false
set_option linter.unnecessarySimpa false
set_option maxRecDepth 1000000
set_option linter.unusedVariables false
namespace Go.AM
open Go
section
variable {V : VProg} (C : VCode V)
include C
theorem ea_0_0 (a b : Int) (ha : a.tmod 4 = 0) (hb : b.tmod 4 = 0) : VP V n_withelaw27_ExecAtomic [.i .u8 a, .i .u8 b] fun r => r = .b true :=
  ea_body C a b 0 0 ha hb (by decide) (by decide) 11 12 (by decide) (by decide) (t990 C) (t1014 C) rfl rfl rfl (t2118 C) (t2127 C) (t2234 C) (t2175 C) (t2203 C) (t2384 C) (t2399 C)
theorem ea_0_1 (a b : Int) (ha : a.tmod 4 = 0) (hb : b.tmod 4 = 1) : VP V n_withelaw27_ExecAtomic [.i .u8 a, .i .u8 b] fun r => r = .b true :=
  ea_body C a b 0 1 ha hb (by decide) (by decide) 11 12 (by decide) (by decide) (t990 C) (t2411 C) rfl rfl rfl (t3231 C) (t3237 C) (t3309 C) (t3258 C) (t3279 C) (t3365 C) (t3374 C)
theorem ea_0_2 (a b : Int) (ha : a.tmod 4 = 0) (hb : b.tmod 4 = 2) : VP V n_withelaw27_ExecAtomic [.i .u8 a, .i .u8 b] fun r => r = .b true :=
  ea_body C a b 0 2 ha hb (by decide) (by decide) 11 12 (by decide) (by decide) (t990 C) (t3388 C) rfl rfl rfl (t4208 C) (t4214 C) (t4286 C) (t4235 C) (t4256 C) (t4342 C) (t4351 C)
theorem ea_0_3 (a b : Int) (ha : a.tmod 4 = 0) (hb : b.tmod 4 = 3) : VP V n_withelaw27_ExecAtomic [.i .u8 a, .i .u8 b] fun r => r = .b true :=
  ea_body C a b 0 3 ha hb (by decide) (by decide) 11 12 (by decide) (by decide) (t990 C) (t4365 C) rfl rfl rfl (t5185 C) (t5191 C) (t5263 C) (t5212 C) (t5233 C) (t5319 C) (t5328 C)
theorem ea_1_0 (a b : Int) (ha : a.tmod 4 = 1) (hb : b.tmod 4 = 0) : VP V n_withelaw27_ExecAtomic [.i .u8 a, .i .u8 b] fun r => r = .b true :=
  ea_body C a b 1 0 ha hb (by decide) (by decide) 13 14 (by decide) (by decide) (t990 C) (t5333 C) rfl rfl rfl (t6153 C) (t6159 C) (t6348 C) (t6180 C) (t6201 C) (t6498 C) (t6513 C)
theorem ea_1_1 (a b : Int) (ha : a.tmod 4 = 1) (hb : b.tmod 4 = 1) : VP V n_withelaw27_ExecAtomic [.i .u8 a, .i .u8 b] fun r => r = .b true :=
  ea_body C a b 1 1 ha hb (by decide) (by decide) 13 14 (by decide) (by decide) (t990 C) (t6518 C) rfl rfl rfl (t7338 C) (t7344 C) (t7404 C) (t7359 C) (t7374 C) (t7464 C) (t7473 C)
theorem ea_1_2 (a b : Int) (ha : a.tmod 4 = 1) (hb : b.tmod 4 = 2) : VP V n_withelaw27_ExecAtomic [.i .u8 a, .i .u8 b] fun r => r = .b true :=
  ea_body C a b 1 2 ha hb (by decide) (by decide) 13 14 (by decide) (by decide) (t990 C) (t7478 C) rfl rfl rfl (t8298 C) (t8304 C) (t8364 C) (t8319 C) (t8334 C) (t8424 C) (t8433 C)
theorem ea_1_3 (a b : Int) (ha : a.tmod 4 = 1) (hb : b.tmod 4 = 3) : VP V n_withelaw27_ExecAtomic [.i .u8 a, .i .u8 b] fun r => r = .b true :=
  ea_body C a b 1 3 ha hb (by decide) (by decide) 13 14 (by decide) (by decide) (t990 C) (t8438 C) rfl rfl rfl (t9258 C) (t9264 C) (t9324 C) (t9279 C) (t9294 C) (t9384 C) (t9393 C)
theorem ea_2_0 (a b : Int) (ha : a.tmod 4 = 2) (hb : b.tmod 4 = 0) : VP V n_withelaw27_ExecAtomic [.i .u8 a, .i .u8 b] fun r => r = .b true :=
  ea_body C a b 2 0 ha hb (by decide) (by decide) 15 16 (by decide) (by decide) (t990 C) (t9398 C) rfl rfl rfl (t10218 C) (t10224 C) (t10413 C) (t10245 C) (t10266 C) (t10563 C) (t10578 C)
theorem ea_2_1 (a b : Int) (ha : a.tmod 4 = 2) (hb : b.tmod 4 = 1) : VP V n_withelaw27_ExecAtomic [.i .u8 a, .i .u8 b] fun r => r = .b true :=
  ea_body C a b 2 1 ha hb (by decide) (by decide) 15 16 (by decide) (by decide) (t990 C) (t10583 C) rfl rfl rfl (t11403 C) (t11409 C) (t11469 C) (t11424 C) (t11439 C) (t11529 C) (t11538 C)
theorem ea_2_2 (a b : Int) (ha : a.tmod 4 = 2) (hb : b.tmod 4 = 2) : VP V n_withelaw27_ExecAtomic [.i .u8 a, .i .u8 b] fun r => r = .b true :=
  ea_body C a b 2 2 ha hb (by decide) (by decide) 15 16 (by decide) (by decide) (t990 C) (t11543 C) rfl rfl rfl (t12363 C) (t12369 C) (t12429 C) (t12384 C) (t12399 C) (t12489 C) (t12498 C)
theorem ea_2_3 (a b : Int) (ha : a.tmod 4 = 2) (hb : b.tmod 4 = 3) : VP V n_withelaw27_ExecAtomic [.i .u8 a, .i .u8 b] fun r => r = .b true :=
  ea_body C a b 2 3 ha hb (by decide) (by decide) 15 16 (by decide) (by decide) (t990 C) (t12503 C) rfl rfl rfl (t13323 C) (t13329 C) (t13389 C) (t13344 C) (t13359 C) (t13449 C) (t13458 C)
theorem ea_3_0 (a b : Int) (ha : a.tmod 4 = 3) (hb : b.tmod 4 = 0) : VP V n_withelaw27_ExecAtomic [.i .u8 a, .i .u8 b] fun r => r = .b true :=
  ea_body C a b 3 0 ha hb (by decide) (by decide) 17 18 (by decide) (by decide) (t990 C) (t13463 C) rfl rfl rfl (t14283 C) (t14289 C) (t14478 C) (t14310 C) (t14331 C) (t14628 C) (t14643 C)
theorem ea_3_1 (a b : Int) (ha : a.tmod 4 = 3) (hb : b.tmod 4 = 1) : VP V n_withelaw27_ExecAtomic [.i .u8 a, .i .u8 b] fun r => r = .b true :=
  ea_body C a b 3 1 ha hb (by decide) (by decide) 17 18 (by decide) (by decide) (t990 C) (t14648 C) rfl rfl rfl (t15468 C) (t15474 C) (t15534 C) (t15489 C) (t15504 C) (t15594 C) (t15603 C)
theorem ea_3_2 (a b : Int) (ha : a.tmod 4 = 3) (hb : b.tmod 4 = 2) : VP V n_withelaw27_ExecAtomic [.i .u8 a, .i .u8 b] fun r => r = .b true :=
  ea_body C a b 3 2 ha hb (by decide) (by decide) 17 18 (by decide) (by decide) (t990 C) (t15608 C) rfl rfl rfl (t16428 C) (t16434 C) (t16494 C) (t16449 C) (t16464 C) (t16554 C) (t16563 C)
theorem ea_3_3 (a b : Int) (ha : a.tmod 4 = 3) (hb : b.tmod 4 = 3) : VP V n_withelaw27_ExecAtomic [.i .u8 a, .i .u8 b] fun r => r = .b true :=
  ea_body C a b 3 3 ha hb (by decide) (by decide) 17 18 (by decide) (by decide) (t990 C) (t16568 C) rfl rfl rfl (t17388 C) (t17394 C) (t17454 C) (t17409 C) (t17424 C) (t17514 C) (t17523 C)
omit C in
theorem mod4 (a : Int) (h0 : 0 ≤ a) : a.tmod 4 = 0 ∨ a.tmod 4 = 1 ∨ a.tmod 4 = 2 ∨ a.tmod 4 = 3 := by
  have e : a.tmod 4 = a % 4 := Int.tmod_eq_emod_of_nonneg h0
  omega
theorem ea_all (a b : Int) (h0 : 0 ≤ a) (h1 : 0 ≤ b) : VP V n_withelaw27_ExecAtomic [.i .u8 a, .i .u8 b] fun r => r = .b true := by
  rcases mod4 a h0 with e | e | e | e <;> rcases mod4 b h1 with k | k | k | k
  · exact ea_0_0 C a b e k
  · exact ea_0_1 C a b e k
  · exact ea_0_2 C a b e k
  · exact ea_0_3 C a b e k
  · exact ea_1_0 C a b e k
  · exact ea_1_1 C a b e k
  · exact ea_1_2 C a b e k
  · exact ea_1_3 C a b e k
  · exact ea_2_0 C a b e k
  · exact ea_2_1 C a b e k
  · exact ea_2_2 C a b e k
  · exact ea_2_3 C a b e k
  · exact ea_3_0 C a b e k
  · exact ea_3_1 C a b e k
  · exact ea_3_2 C a b e k
  · exact ea_3_3 C a b e k
end
end Go.AM
