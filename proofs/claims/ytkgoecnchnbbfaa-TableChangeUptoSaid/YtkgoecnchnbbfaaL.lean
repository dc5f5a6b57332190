/- Functions of Go's library in this seat's program. No condition. -/
import Derived.Shelf.Strings.Builder1
import Derived.Shelf.Strings.OnBuilder
import Derived.Shelf.Sort.Plain
import Derived.Shelf.Spec.SlicesGrow
import Derived.Test.YtkgoecnchnbbfaaB
import Derived.Test.YtkgoecnchnbbfaaProg
import Derived.Test.YtkgoecnchnbbfaaChecked
set_option linter.unusedVariables false
set_option linter.unusedSimpArgs false
set_option linter.unusedSectionVars false
namespace Go.Proofs
open Go.Shelf
def Try.lays169_ren:Go.Shelf.Ren:=⟨fun|169=>84|n=>n,fun|70=>102|9=>9|0=>0|72=>105|37=>103|127=>127|3=>3|5=>5|n=>n,fun|n=>n⟩
theorem Try.lays169:Go.Proofs.Lays.n169 Try.prog Try.lays169_ren:={
  mixed:=by kernel_rfl
  f169:=Try.func84.trans (congrArg some (by kernel_rfl))
  t0:=Try.underlying0
  a0:=Try.isAgg0
  z0:=Try.sizeOf0
  v0:=Try.zeroValue0
  t3:=Try.underlying3
  a3:=Try.isAgg3
  z3:=Try.sizeOf3
  v3:=Try.zeroValue3
  t9:=Try.underlying9
  a9:=Try.isAgg9
  z9:=Try.sizeOf9
  v9:=Try.zeroValue9
  t37:=Try.underlying103
  a37:=Try.isAgg103
  z37:=Try.sizeOf103
  v37:=Try.zeroValue103
  t70:=Try.underlying102
  a70:=Try.isAgg102
  z70:=Try.sizeOf102
  v70:=Try.zeroValue102
  t72:=Try.underlying105
  a72:=Try.isAgg105
  z72:=Try.sizeOf105
  v72:=Try.zeroValue105
  t127:=Try.underlying127
  a127:=Try.isAgg127
  z127:=Try.sizeOf127
  v127:=Try.zeroValue127}
def Try.lays190_ren:Go.Shelf.Ren:=⟨fun|190=>57|125=>90|258=>89|128=>110|129=>111|302=>101|303=>102|304=>103|305=>104|306=>105|307=>106|308=>107|309=>108|310=>109|333=>115|329=>116|330=>117|334=>118|335=>119|336=>120|344=>122|n=>n,fun|31=>22|9=>9|3=>3|46=>117|0=>0|51=>30|53=>138|4=>4|183=>130|182=>129|131=>45|5=>5|218=>142|222=>146|228=>149|229=>150|n=>n,fun|n=>n⟩
theorem Try.lays190:Go.Proofs.Lays.n190 Try.prog Try.lays190_ren:={
  mixed:=by kernel_rfl
  f125:=Try.func90.trans (congrArg some (by kernel_rfl))
  f128:=Try.func110.trans (congrArg some (by kernel_rfl))
  f129:=Try.func111.trans (congrArg some (by kernel_rfl))
  f190:=Try.func57.trans (congrArg some (by kernel_rfl))
  f258:=Try.func89.trans (congrArg some (by kernel_rfl))
  f302:=Try.func101.trans (congrArg some (by kernel_rfl))
  f303:=Try.func102.trans (congrArg some (by kernel_rfl))
  f304:=Try.func103.trans (congrArg some (by kernel_rfl))
  f305:=Try.func104.trans (congrArg some (by kernel_rfl))
  f306:=Try.func105.trans (congrArg some (by kernel_rfl))
  f307:=Try.func106.trans (congrArg some (by kernel_rfl))
  f308:=Try.func107.trans (congrArg some (by kernel_rfl))
  f309:=Try.func108.trans (congrArg some (by kernel_rfl))
  f310:=Try.func109.trans (congrArg some (by kernel_rfl))
  f329:=Try.func116.trans (congrArg some (by kernel_rfl))
  f330:=Try.func117.trans (congrArg some (by kernel_rfl))
  f333:=Try.func115.trans (congrArg some (by kernel_rfl))
  f334:=Try.func118.trans (congrArg some (by kernel_rfl))
  f335:=Try.func119.trans (congrArg some (by kernel_rfl))
  f336:=Try.func120.trans (congrArg some (by kernel_rfl))
  f344:=Try.func122.trans (congrArg some (by kernel_rfl))
  t0:=Try.underlying0
  a0:=Try.isAgg0
  z0:=Try.sizeOf0
  v0:=Try.zeroValue0
  t3:=Try.underlying3
  a3:=Try.isAgg3
  z3:=Try.sizeOf3
  v3:=Try.zeroValue3
  t4:=Try.underlying4
  a4:=Try.isAgg4
  z4:=Try.sizeOf4
  v4:=Try.zeroValue4
  t5:=Try.underlying5
  a5:=Try.isAgg5
  z5:=Try.sizeOf5
  v5:=Try.zeroValue5
  t9:=Try.underlying9
  a9:=Try.isAgg9
  z9:=Try.sizeOf9
  v9:=Try.zeroValue9
  t31:=Try.underlying22
  a31:=Try.isAgg22
  z31:=Try.sizeOf22
  v31:=Try.zeroValue22
  t46:=Try.underlying117
  a46:=Try.isAgg117
  z46:=Try.sizeOf117
  v46:=Try.zeroValue117
  t51:=Try.underlying30
  a51:=Try.isAgg30
  z51:=Try.sizeOf30
  v51:=Try.zeroValue30
  t53:=Try.underlying138
  a53:=Try.isAgg138
  z53:=Try.sizeOf138
  v53:=Try.zeroValue138
  t131:=Try.underlying45
  a131:=Try.isAgg45
  z131:=Try.sizeOf45
  v131:=Try.zeroValue45
  t182:=Try.underlying129
  a182:=Try.isAgg129
  z182:=Try.sizeOf129
  v182:=Try.zeroValue129
  t183:=Try.underlying130
  a183:=Try.isAgg130
  z183:=Try.sizeOf130
  v183:=Try.zeroValue130
  t218:=Try.underlying142
  a218:=Try.isAgg142
  z218:=Try.sizeOf142
  v218:=Try.zeroValue142
  t222:=Try.underlying146
  a222:=Try.isAgg146
  z222:=Try.sizeOf146
  v222:=Try.zeroValue146
  t228:=Try.underlying149
  a228:=Try.isAgg149
  z228:=Try.sizeOf149
  v228:=Try.zeroValue149
  t229:=Try.underlying150
  a229:=Try.isAgg150
  z229:=Try.sizeOf150
  v229:=Try.zeroValue150}
theorem Try.lays169':Lays.n169 Try.prog Try.lays169_ren:=Try.lays169
theorem Try.bextra169:Builder.Extra Try.prog Try.lays169_ren where
  sizeBuilder:=by kernel_rfl
  liesBuilder:=by kernel_rfl
  t5:=Try.underlying5
  a5:=Try.isAgg5
  z5:=Try.sizeOf5
  v5:=Try.zeroValue5
  infoByte:=by kernel_rfl
  cellsByte:=by kernel_rfl
  sizeByte:=by kernel_rfl
  neB5:=by decide
def Try.lays240_ren:Go.Shelf.Ren:=⟨fun|240=>100|276=>114|n=>n,fun|70=>102|72=>105|37=>103|164=>140|n=>n,fun n=>n⟩
theorem Try.lays240':Lays.n240 Try.prog Try.lays240_ren:={
  mixed:=by kernel_rfl
  f240:=Try.func100.trans (congrArg some (by kernel_rfl))
  f276:=Try.func114.trans (congrArg some (by kernel_rfl))
  t0:=Try.underlying0
  a0:=Try.isAgg0
  z0:=Try.sizeOf0
  v0:=Try.zeroValue0
  t4:=Try.underlying4
  a4:=Try.isAgg4
  z4:=Try.sizeOf4
  v4:=Try.zeroValue4
  t9:=Try.underlying9
  a9:=Try.isAgg9
  z9:=Try.sizeOf9
  v9:=Try.zeroValue9
  t20:=Try.underlying20
  a20:=Try.isAgg20
  z20:=Try.sizeOf20
  v20:=Try.zeroValue20
  t70:=Try.underlying102
  a70:=Try.isAgg102
  z70:=Try.sizeOf102
  v70:=Try.zeroValue102
  t72:=Try.underlying105
  a72:=Try.isAgg105
  z72:=Try.sizeOf105
  v72:=Try.zeroValue105
  t164:=Try.underlying140
  a164:=Try.isAgg140
  z164:=Try.sizeOf140
  v164:=Try.zeroValue140}
theorem Try.bextra240:Builder.Extra Try.prog Try.lays240_ren where
  sizeBuilder:=by kernel_rfl
  liesBuilder:=by kernel_rfl
  t5:=Try.underlying5
  a5:=Try.isAgg5
  z5:=Try.sizeOf5
  v5:=Try.zeroValue5
  infoByte:=by kernel_rfl
  cellsByte:=by kernel_rfl
  sizeByte:=by kernel_rfl
  neB5:=by decide
def Try.ins_ren:Ren:=⟨fun n=>if n=22 then 74 else if n=29 then 95 else if n=30 then 96 else n,fun n=>if n=24 then 23 else if n=9 then 57 else n,fun n=>n⟩
theorem Try.insL:Go.Abs.InsL Try.prog Try.ins_ren [.int .i64 0,.slice none 0 0]:=
  {mixed:=by kernel_rfl
   f22:=⟨Try.f74.name,by decide+kernel,Eq.trans Try.func74 (congrArg some (by kernel_rfl))⟩
   f29:=⟨Try.f95,Try.func95,by kernel_rfl,by kernel_rfl,by kernel_rfl,by kernel_rfl⟩
   t0:=Try.underlying0
   t3:=Try.underlying3
   t4:=Try.underlying4
   t24:=Try.underlying23
   z3:=by kernel_rfl
   z4:=by kernel_rfl
   z24:=by kernel_rfl
   z9:=by kernel_rfl}
end Go.Proofs
