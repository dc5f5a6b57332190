/- Functions of Go's library in this seat's program. No condition. -/
import Derived.Shelf.Strings.Builder1
import Derived.Shelf.Sort.Plain
import Derived.Shelf.Spec.SlicesGrow
import Derived.KernelRfl
import Derived.Test.YtgegamaadohibaaProg
import Derived.Test.YtgegamaadohibaaChecked
set_option linter.unusedVariables false
set_option linter.unusedSimpArgs false
set_option linter.unusedSectionVars false
namespace Go.Proofs
open Go.Shelf
def Try.lays189_ren:Go.Shelf.Ren:=⟨fun|189=>41|125=>58|257=>57|128=>80|129=>81|294=>71|295=>72|296=>73|297=>74|298=>75|299=>76|216=>77|300=>78|301=>79|328=>86|329=>87|330=>88|331=>89|332=>90|215=>91|343=>93|n=>n,fun|28=>36|3=>3|46=>101|0=>0|51=>123|53=>125|4=>4|183=>115|182=>114|131=>120|5=>5|9=>9|218=>128|222=>132|228=>134|229=>135|n=>n,fun|n=>n⟩
theorem Try.lays189:Go.Proofs.Lays.n189 Try.prog Try.lays189_ren:={
  mixed:=by kernel_rfl
  f125:=Try.func58.trans (congrArg some (by kernel_rfl))
  f128:=Try.func80.trans (congrArg some (by kernel_rfl))
  f129:=Try.func81.trans (congrArg some (by kernel_rfl))
  f189:=Try.func41.trans (congrArg some (by kernel_rfl))
  f215:=Try.func91.trans (congrArg some (by kernel_rfl))
  f216:=Try.func77.trans (congrArg some (by kernel_rfl))
  f257:=Try.func57.trans (congrArg some (by kernel_rfl))
  f294:=Try.func71.trans (congrArg some (by kernel_rfl))
  f295:=Try.func72.trans (congrArg some (by kernel_rfl))
  f296:=Try.func73.trans (congrArg some (by kernel_rfl))
  f297:=Try.func74.trans (congrArg some (by kernel_rfl))
  f298:=Try.func75.trans (congrArg some (by kernel_rfl))
  f299:=Try.func76.trans (congrArg some (by kernel_rfl))
  f300:=Try.func78.trans (congrArg some (by kernel_rfl))
  f301:=Try.func79.trans (congrArg some (by kernel_rfl))
  f328:=Try.func86.trans (congrArg some (by kernel_rfl))
  f329:=Try.func87.trans (congrArg some (by kernel_rfl))
  f330:=Try.func88.trans (congrArg some (by kernel_rfl))
  f331:=Try.func89.trans (congrArg some (by kernel_rfl))
  f332:=Try.func90.trans (congrArg some (by kernel_rfl))
  f343:=Try.func93.trans (congrArg some (by kernel_rfl))
  t0:=Try.underlying0
  a0:=Try.isAgg0
  z0:=Try.sizeOf0
  v0:=Try.zeroValue0
  t3:=Try.underlying3
  a3:=Try.isAgg3
  z3:=Try.sizeOf3
  v3:=Try.zeroValue3
  t4:=Try.underlying4
  a4:=Try.isAgg4
  z4:=Try.sizeOf4
  v4:=Try.zeroValue4
  t5:=Try.underlying5
  a5:=Try.isAgg5
  z5:=Try.sizeOf5
  v5:=Try.zeroValue5
  t9:=Try.underlying9
  a9:=Try.isAgg9
  z9:=Try.sizeOf9
  v9:=Try.zeroValue9
  t28:=Try.underlying36
  a28:=Try.isAgg36
  z28:=Try.sizeOf36
  v28:=Try.zeroValue36
  t46:=Try.underlying101
  a46:=Try.isAgg101
  z46:=Try.sizeOf101
  v46:=Try.zeroValue101
  t51:=Try.underlying123
  a51:=Try.isAgg123
  z51:=Try.sizeOf123
  v51:=Try.zeroValue123
  t53:=Try.underlying125
  a53:=Try.isAgg125
  z53:=Try.sizeOf125
  v53:=Try.zeroValue125
  t131:=Try.underlying120
  a131:=Try.isAgg120
  z131:=Try.sizeOf120
  v131:=Try.zeroValue120
  t182:=Try.underlying114
  a182:=Try.isAgg114
  z182:=Try.sizeOf114
  v182:=Try.zeroValue114
  t183:=Try.underlying115
  a183:=Try.isAgg115
  z183:=Try.sizeOf115
  v183:=Try.zeroValue115
  t218:=Try.underlying128
  a218:=Try.isAgg128
  z218:=Try.sizeOf128
  v218:=Try.zeroValue128
  t222:=Try.underlying132
  a222:=Try.isAgg132
  z222:=Try.sizeOf132
  v222:=Try.zeroValue132
  t228:=Try.underlying134
  a228:=Try.isAgg134
  z228:=Try.sizeOf134
  v228:=Try.zeroValue134
  t229:=Try.underlying135
  a229:=Try.isAgg135
  z229:=Try.sizeOf135
  v229:=Try.zeroValue135}
def Try.lays8_4_ren:Ren:=⟨fun n=>if n=4 then 84 else n,fun n=>if n=22 then 48 else if n=25 then 70 else n,fun n=>n⟩
theorem Try.lays8_4:Lays8.n4 Try.prog Try.lays8_4_ren:=
  {mixed:=by kernel_rfl
   f4:=⟨Try.f84.name,by decide+kernel,Eq.trans Try.func84 (congrArg some (by kernel_rfl))⟩
   t0:=Try.underlying0
   a0:=Try.isAgg0
   z0:=Try.sizeOf0
   v0:=Try.zeroValue0
   t3:=Try.underlying3
   a3:=Try.isAgg3
   z3:=Try.sizeOf3
   v3:=Try.zeroValue3
   t4:=Try.underlying4
   a4:=Try.isAgg4
   z4:=Try.sizeOf4
   v4:=Try.zeroValue4
   t9:=Try.underlying9
   a9:=Try.isAgg9
   z9:=Try.sizeOf9
   v9:=Try.zeroValue9
   t20:=Try.underlying20
   a20:=Try.isAgg20
   z20:=Try.sizeOf20
   v20:=Try.zeroValue20
   t22:=Try.underlying48
   a22:=Try.isAgg48
   z22:=Try.sizeOf48
   v22:=Try.zeroValue48}
end Go.Proofs
