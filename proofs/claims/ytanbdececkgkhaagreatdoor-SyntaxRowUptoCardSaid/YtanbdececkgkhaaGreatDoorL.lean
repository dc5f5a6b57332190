/- Functions of Go's library in this seat's program. No condition. -/
import Derived.Shelf.Strings.Builder1
import Derived.Shelf.Strings.Count
import Derived.Shelf.Strings.OnBuilder
import Derived.Shelf.Strconv.Itoa4
import Derived.Shelf.Strconv.ParseIntPublic10
import Derived.Shelf.Sort.Plain
import Derived.Shelf.Strings.Repeat
import Derived.Shelf.Small.Strs
import Derived.Shelf.Slices.CompactI
import Derived.Shelf.SlicesE.DeleteFunc
import Derived.Test.YtanbdececkgkhaaGreatDoorB
import Derived.Test.YtanbdececkgkhaaGreatDoorProg
import Derived.Test.YtanbdececkgkhaaGreatDoorChecked
set_option linter.unusedVariables false
set_option linter.unusedSimpArgs false
set_option linter.unusedSectionVars false
open Option renaming some → U,none → zz
open Bool renaming true → zZ,false → zj
namespace Go.Proofs
open Go.Shelf
def Tryz.sB:Go.Shelf.Ren:=⟨λ|137=>164|217=>222|266=>263|n=>n,λ|9=>9|5=>5|3=>3|n=>n,λ|n=>n⟩
theorem Tryz.zo:Go.Proofs.Lays.n137 Tryz.prog Tryz.sB:=by
 constructor<;>first|kernel_rfl| (intros;kernel_rfl)
def Tryz.sC:Go.Shelf.Ren:=⟨λ|138=>99|195=>165|218=>166|143=>167|219=>223|217=>222|225=>264|224=>265|267=>266|266=>263|314=>294|n=>n,λ|9=>9|3=>3|4=>4|5=>5|0=>0|46=>299|146=>358|51=>40|n=>n,λ|1=>3|n=>n⟩
theorem Tryz.zp:Go.Proofs.Lays.n138 Tryz.prog Tryz.sC:=by
 constructor<;>first|kernel_rfl| (intros;kernel_rfl)
def Tryz.kK:Go.Shelf.Ren:=⟨λ|156=>27|165=>75|166=>26|169=>36|240=>74|241=>146|276=>145|277=>208|n=>n,λ|31=>65|9=>9|3=>3|4=>4|0=>0|20=>20|72=>108|76=>111|70=>105|37=>106|75=>110|127=>202|164=>246|5=>5|80=>132|n=>n,λ|n=>n⟩
theorem Tryz.rA:Go.Proofs.Lays.n156 Tryz.prog Tryz.kK:=by
 constructor<;>first|kernel_rfl| (intros;kernel_rfl)
def Tryz.rB:Go.Shelf.Ren:=⟨λ|171=>83|243=>149|246=>148|283=>210|284=>211|285=>212|286=>213|129=>254|317=>255|318=>256|319=>257|320=>258|337=>288|338=>289|n=>n,λ|3=>3|9=>9|2=>2|4=>4|171=>301|0=>0|53=>231|37=>106|5=>5|173=>304|212=>333|51=>40|20=>20|213=>334|46=>299|232=>371|233=>372|n=>n,λ|17=>4|18=>5|19=>6|n=>n⟩
theorem Tryz.xm:Go.Proofs.LaysM.n171 Tryz.prog Tryz.rB:=by
 constructor<;>first|kernel_rfl| (intros;kernel_rfl)| (constructor<;>first|kernel_rfl| (intros;kernel_rfl)| (constructor<;>first|kernel_rfl| (intros;kernel_rfl)))
def Tryz.lb:Go.Shelf.Ren:=⟨λ|174=>268|247=>296|245=>297|287=>304|279=>305|280=>306|281=>307|282=>308|321=>321|322=>322|316=>323|171=>83|205=>324|243=>149|246=>148|283=>210|284=>211|285=>212|286=>213|129=>254|317=>255|318=>256|319=>257|320=>258|337=>288|338=>289|n=>n,λ|9=>9|3=>3|2=>2|75=>110|85=>337|4=>4|167=>373|5=>5|53=>231|175=>360|46=>299|168=>374|37=>106|0=>0|210=>387|21=>21|127=>202|145=>393|143=>391|171=>301|173=>304|212=>333|51=>40|20=>20|213=>334|232=>371|233=>372|80=>132|n=>n,λ|15=>7|16=>8|17=>4|18=>5|19=>6|n=>n⟩
theorem Tryz.mP:Go.Proofs.LaysC.n174 Tryz.prog Tryz.lb:=by
 constructor<;>first|kernel_rfl| (intros;kernel_rfl)| (constructor<;>first|kernel_rfl| (intros;kernel_rfl)| (constructor<;>first|kernel_rfl| (intros;kernel_rfl)))
def Tryz.rC:Go.Shelf.Ren:=⟨λ|173=>77|246=>148|283=>210|284=>211|285=>212|286=>213|129=>254|317=>255|318=>256|319=>257|320=>258|337=>288|338=>289|n=>n,λ|2=>2|3=>3|9=>9|4=>4|171=>301|0=>0|53=>231|37=>106|5=>5|173=>304|212=>333|51=>40|20=>20|213=>334|46=>299|232=>371|233=>372|n=>n,λ|17=>4|18=>5|19=>6|n=>n⟩
theorem Tryz.xn:Go.Proofs.LaysM.n173 Tryz.prog Tryz.rC:=by
 constructor<;>first|kernel_rfl| (intros;kernel_rfl)| (constructor<;>first|kernel_rfl| (intros;kernel_rfl)| (constructor<;>first|kernel_rfl| (intros;kernel_rfl)))
def Tryz.sD:Go.Shelf.Ren:=⟨λ|10=>42|6=>103|n=>n,λ|22=>86|23=>89|25=>140|3=>3|4=>4|0=>0|n=>n,λ|n=>n⟩
theorem Tryz.Hu:Go.Proofs.SlLaysH.n10 Tryz.prog Tryz.sD:={
 mixed:=by kernel_rfl
 f6:=⟨Tryz.f103.name,by decide,Tryz.func103.trans (congrArg U (by kernel_rfl))⟩
 f10:=⟨Tryz.f42.name,by decide,Tryz.func42.trans (congrArg U (by kernel_rfl))⟩
 t0:=Tryz.underlying0
 a0:=Tryz.isAgg0
 z0:=Tryz.sizeOf0
 v0:=Tryz.zeroValue0
 t3:=Tryz.underlying3
 a3:=Tryz.isAgg3
 z3:=Tryz.sizeOf3
 v3:=Tryz.zeroValue3
 t4:=Tryz.underlying4
 a4:=Tryz.isAgg4
 z4:=Tryz.sizeOf4
 v4:=Tryz.zeroValue4
 t22:=Tryz.underlying86
 a22:=Tryz.isAgg86
 z22:=Tryz.sizeOf86
 v22:=Tryz.zeroValue86
 a23:=Tryz.isAgg89
 z23:=Tryz.sizeOf89
 t25:=Tryz.underlying140
 a25:=Tryz.isAgg140
 z25:=Tryz.sizeOf140
 v25:=Tryz.zeroValue140}
theorem Tryz.xo:Lays.n169 Tryz.prog Tryz.kK:={Tryz.rA with}
theorem Tryz.xp:Lays.n240 Tryz.prog Tryz.kK:={Tryz.rA with}
theorem Tryz.xq:Builder.Extra Tryz.prog Tryz.kK where
 sizeBuilder:=by kernel_rfl
 liesBuilder:=by kernel_rfl
 t5:=Tryz.underlying5
 a5:=Tryz.isAgg5
 z5:=Tryz.sizeOf5
 v5:=Tryz.zeroValue5
 infoByte:=by kernel_rfl
 cellsByte:=by kernel_rfl
 sizeByte:=by kernel_rfl
 neB5:=by decide
def Tryz.zq:Ren:=⟨λn=>if n=22 then 184 else if n=29 then 230 else if n=30 then 231 else n,λn=>if n=24 then 66 else if n=9 then 25 else n,λn=>n⟩
theorem Tryz.CK:Go.Abs.ry Tryz.prog Tryz.zq [.int .i64 0,.slice zz 0 0]:=
 {mixed:=by kernel_rfl
  f22:=⟨Tryz.f184.name,by decide+kernel,Eq.trans Tryz.func184 (congrArg U (by kernel_rfl))⟩
  f29:=⟨Tryz.f230,Tryz.func230,by kernel_rfl,by kernel_rfl,by kernel_rfl,by kernel_rfl⟩
  t0:=Tryz.underlying0
  t3:=Tryz.underlying3
  t4:=Tryz.underlying4
  t24:=Tryz.underlying66
  z3:=by kernel_rfl
  z4:=by kernel_rfl
  z24:=by kernel_rfl
  z9:=by kernel_rfl}
end Go.Proofs
