import Derived.Shelf.SlicesQ.Reverse
import Derived.Ground.SlgnProg
import Derived.Test.YtgkehahklccacaaGreatDoorProg
namespace Go.Proofs
open Go.Shelf
def Tryz.reverse206_ren:Go.Shelf.Ren:=⟨fun | 35=>206 | n=>n,fun | 22=>227 | 23=>300 | 3=>3 | 4=>4 | 0=>0 | n=>n,fun | n=>n⟩
theorem Tryz.reverse206:Go.Proofs.SlLaysE0.n35 Tryz.prog Tryz.reverse206_ren:={
 mixed:=by kernel_rfl
 f35:=⟨Tryz.f206.name,by decide,Tryz.func206.trans (congrArg some (by kernel_rfl))⟩
 t0:=Tryz.underlying0
 a0:=Tryz.isAgg0
 z0:=Tryz.sizeOf0
 v0:=Tryz.zeroValue0
 t3:=Tryz.underlying3
 a3:=Tryz.isAgg3
 z3:=Tryz.sizeOf3
 v3:=Tryz.zeroValue3
 t4:=Tryz.underlying4
 a4:=Tryz.isAgg4
 z4:=Tryz.sizeOf4
 v4:=Tryz.zeroValue4
 t22:=Tryz.underlying227
 a22:=Tryz.isAgg227
 z22:=Tryz.sizeOf227
 v22:=Tryz.zeroValue227 }
end Go.Proofs
