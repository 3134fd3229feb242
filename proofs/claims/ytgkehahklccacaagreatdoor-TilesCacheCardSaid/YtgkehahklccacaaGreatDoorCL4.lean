import Derived.Shelf.Spec.TrailingZeros
import Derived.Ground.Names7Prog
import Derived.Test.YtgkehahklccacaaGreatDoorProg
namespace Go.Proofs
open Go.Shelf
def Tryz.lays7n27_ren:Go.Shelf.Ren:=⟨fun | 27=>113 | 28=>183 | 29=>184 | n=>n,fun | 25=>86 | 3=>3 | 27=>255 | 22=>173 | 4=>4 | 53=>37 | 0=>0 | 5=>5 | 54=>330 | n=>n,fun | 0=>0 | 1=>1 | n=>n⟩
theorem Tryz.lays7n27:Go.Proofs.Lays7.n27 Tryz.prog Tryz.lays7n27_ren:={
 mixed:=by kernel_rfl
 f27:=Tryz.func113.trans (congrArg some (by kernel_rfl))
 f28:=Tryz.func183.trans (congrArg some (by kernel_rfl))
 f29:=Tryz.func184.trans (congrArg some (by kernel_rfl))
 t0:=Tryz.underlying0
 a0:=Tryz.isAgg0
 z0:=Tryz.sizeOf0
 v0:=Tryz.zeroValue0
 i0:=by kernel_rfl
 t3:=Tryz.underlying3
 a3:=Tryz.isAgg3
 z3:=Tryz.sizeOf3
 v3:=Tryz.zeroValue3
 i3:=by kernel_rfl
 t4:=Tryz.underlying4
 a4:=Tryz.isAgg4
 z4:=Tryz.sizeOf4
 v4:=Tryz.zeroValue4
 i4:=by kernel_rfl
 t5:=Tryz.underlying5
 a5:=Tryz.isAgg5
 z5:=Tryz.sizeOf5
 v5:=Tryz.zeroValue5
 i5:=by kernel_rfl
 t22:=Tryz.underlying173
 a22:=Tryz.isAgg173
 z22:=Tryz.sizeOf173
 v22:=Tryz.zeroValue173
 i22:=by kernel_rfl
 t25:=Tryz.underlying86
 a25:=Tryz.isAgg86
 z25:=Tryz.sizeOf86
 v25:=Tryz.zeroValue86
 i25:=by kernel_rfl
 t27:=Tryz.underlying255
 a27:=Tryz.isAgg255
 z27:=Tryz.sizeOf255
 v27:=Tryz.zeroValue255
 i27:=by kernel_rfl
 t53:=Tryz.underlying37
 a53:=Tryz.isAgg37
 z53:=Tryz.sizeOf37
 v53:=Tryz.zeroValue37
 i53:=by kernel_rfl
 t54:=Tryz.underlying330
 a54:=Tryz.isAgg330
 z54:=Tryz.sizeOf330
 g0:=by kernel_rfl
 g1:=by kernel_rfl }
end Go.Proofs
