/-
  Own work, part of the proof of these laws: the count of trailing noughts in this program.
-/
import Derived.Shelf.Lays7
import Derived.KernelRfl
import Derived.Shelf.Spec.TrailingZeros
import Derived.Test.YtpnaenhghnkggaaGreatDoorProg
import Derived.Test.YtpnaenhghnkggaaGreatDoorChecked
set_option maxRecDepth 10000
set_option maxHeartbeats 64000000
set_option linter.unusedVariables false
set_option linter.unusedSimpArgs false
namespace Go.Proofs.YtpnaenhghnkggaaGreatDoor
open Go Go.Shelf
set_option maxRecDepth 100000
def CF:Ren where
  f x:=match x with
    |29=>171
    |n=>n
  t x:=match x with
    |22=>46
    |3=>3
    |4=>4
    |25=>148
    |54=>238
    |0=>0
    |5=>5
    |n=>n
  g x:=match x with
    |1=>0
    |n=>n
theorem Alv:Lays7.n29 Tryz.prog CF:=
{ mixed:=by kernel_rfl,f29:=Eq.trans Tryz.func171 (congrArg some (by kernel_rfl)),
  t0:=Tryz.underlying0,a0:=Tryz.isAgg0,z0:=Tryz.sizeOf0,v0:=Tryz.zeroValue0,
  i0:=by kernel_rfl,t3:=Tryz.underlying3,a3:=Tryz.isAgg3,z3:=Tryz.sizeOf3,
  v3:=Tryz.zeroValue3,i3:=by kernel_rfl,t4:=Tryz.underlying4,
  a4:=Tryz.isAgg4,z4:=Tryz.sizeOf4,v4:=Tryz.zeroValue4,i4:=by kernel_rfl,
  t5:=Tryz.underlying5,a5:=Tryz.isAgg5,z5:=Tryz.sizeOf5,v5:=Tryz.zeroValue5,
  i5:=by kernel_rfl,t22:=Tryz.underlying46,a22:=Tryz.isAgg46,
  z22:=Tryz.sizeOf46,v22:=Tryz.zeroValue46,i22:=by kernel_rfl,
  t25:=Tryz.underlying148,a25:=Tryz.isAgg148,z25:=Tryz.sizeOf148,v25:=Tryz.zeroValue148,
  i25:=by kernel_rfl,t54:=Tryz.underlying238,a54:=Tryz.isAgg238,
  z54:=Tryz.sizeOf238,g1:=by kernel_rfl }
end Go.Proofs.YtpnaenhghnkggaaGreatDoor
