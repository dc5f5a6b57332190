/- slices.Grow of this seat's program is the library's. No condition. -/
import Derived.Shelf.Spec.SlicesGrow
import Derived.Test.YtgegamaadohibaaChecked
import Derived.KernelRfl
namespace Go.Proofs.Ytgegamaadohibaa
open Go.Shelf

def growRen : Ren := ⟨fun n => if n = 4 then 84 else n, fun n => if n = 22 then 48 else if n = 25 then 70 else n, fun n => n⟩

theorem growLays : Lays8.n4 Try.prog growRen :=
  { mixed := by kernel_rfl
    f4 := ⟨Try.f84.name, by decide +kernel, Eq.trans Try.func84 (congrArg some (by kernel_rfl))⟩
    t0 := Try.underlying0
    a0 := Try.isAgg0
    z0 := Try.sizeOf0
    v0 := Try.zeroValue0
    t3 := Try.underlying3
    a3 := Try.isAgg3
    z3 := Try.sizeOf3
    v3 := Try.zeroValue3
    t4 := Try.underlying4
    a4 := Try.isAgg4
    z4 := Try.sizeOf4
    v4 := Try.zeroValue4
    t9 := Try.underlying9
    a9 := Try.isAgg9
    z9 := Try.sizeOf9
    v9 := Try.zeroValue9
    t20 := Try.underlying20
    a20 := Try.isAgg20
    z20 := Try.sizeOf20
    v20 := Try.zeroValue20
    t22 := Try.underlying48
    a22 := Try.isAgg48
    z22 := Try.sizeOf48
    v22 := Try.zeroValue48 }
end Go.Proofs.Ytgegamaadohibaa
