/- The functions of this seat's program are those of the texts: each is compared by the kernel. No condition. -/
import Derived.Test.YtppagmmeofoekaaDoorG
import Derived.Test.YtppagmmeofoekaaDoorB
import Derived.Test.YtppagmmeofoekaaDoorL
import Derived.Test.YtppagmmeofoekaaDoorD
import Derived.Test.YtppagmmeofoekaaDoorChecked
set_option linter.unusedVariables false
set_option linter.unusedSimpArgs false
set_option linter.unusedSectionVars false
namespace Go.Abs.G1p
open Go Go.Abs Go.Proofs
def fmL:List Nat:=[0,0,1075,100,101,102,103,104,105,108,109,110,111,112,113,114,115,116,117,118,119,120,121,122,123,124,130,131,125,132,133,134,135,136,137,138,139,140,141,142,143,144,145,146,147,148,149,150,151,158,159,160,161,162,163,164,165,166,167,168,169,177,178,179,180,181,182,183,184,185,186,187,0,1076,1077,188,194,195,196,197,198,199,1081,1082,1083,1084,1085,200,208,1090,1091,1092,209,0,212,213,0,0,0,0,0,0,0,0,0,0,0,0,214,0,0,215,216,0,0,0,0,0,0,1098]
def fm:FM:={f:=fmOf fmL,own:=[],dat:=[("ref.go:163",23)],mks:=[],bt:=77,bu:=5}
theorem mixed:Tryd.prog.follows .mixedOrders=true:=by kernel_rfl
abbrev GY(fs:Lo->List FnE):Prop:= ∀{lo:Lo},LoOK lo->GZ Tryd.prog fm fs lo
theorem S0:GY fs0:=fun h=>⟨h,mixed,Ype Tryd.prog fm pf []⟩
theorem S1:GY fs1:=fun h=>Yp7 (S0 h) (Yag (i:=19) rfl)
theorem S2:GY fs2:=fun h=>Yqc (S1 h) (Yag (i:=26) rfl)
theorem S3:GY fs3:=fun h=>Yqe (S2 h) (Yag (i:=9) rfl)
theorem S4:GY fs4:=fun h=>Yqg (S3 h) (Yag (i:=27) rfl)
theorem S5:GY fs5:=fun h=>Yql (S4 h) (Yag (i:=29) rfl)
theorem S6:GY fs6:=fun h=>Yqn (S5 h) (Yag (i:=35) rfl)
theorem S7:GY fs7:=fun h=>Yqp (S6 h) (Yag (i:=34) rfl)
theorem S8:GY fs8:=fun h=>Yqr (S7 h) (Yag (i:=49) rfl)
theorem S9:GY fs9:=fun h=>Yqt (S8 h) (Yag (i:=30) rfl)
theorem S10:GY fs10:=fun h=>Yqy (S9 h) (Yag (i:=12) rfl)
theorem S11:GY fs11:=fun h=>YqF (S10 h) (Yag (i:=51) rfl)
theorem S12:GY fs12:=fun h=>YqH (S11 h) (Yag (i:=36) rfl)
theorem S13:GY fs13:=fun h=>YqJ (S12 h) (Yag (i:=37) rfl)
theorem S14:GY fs14:=fun h=>YqO (S13 h) (Yag (i:=52) rfl)
theorem S15:GY fs15:=fun h=>YqT (S14 h) (Yag (i:=38) rfl)
theorem S16:GY fs16:=fun h=>YqV (S15 h) (Yag (i:=37) rfl)
theorem S17:GY fs17:=fun h=>YqX (S16 h) (Yag (i:=37) rfl)
theorem S18:GY fs18:=fun h=>Yq2 (S17 h) (Yag (i:=17) rfl)
theorem S19:GY fs19:=fun h=>Yq4 (S18 h) (Yag (i:=33) rfl)
theorem S20:GY fs20:=fun h=>Yq9 (S19 h) (Yag (i:=31) rfl)
theorem S21:GY fs21:=fun h=>Yre (S20 h) (Yag (i:=50) rfl)
theorem S22:GY fs22:=fun h=>Yrj (S21 h) (Yag (i:=32) rfl)
theorem S23:GY fs23:=fun h=>Yro (S22 h) (Yag (i:=13) rfl)
theorem S24:GY fs24:=fun h=>Yrq (S23 h) (Yag (i:=15) rfl)
theorem S25:GY fs25:=fun h=>Yrs (S24 h) (Yag (i:=14) rfl)
theorem S26:GY fs26:=fun h=>Yru (S25 h) (Yag (i:=83) rfl)
theorem S27:GY fs27:=S26
theorem S28:GY fs28:=S27
theorem S29:GY fs29:=S28
theorem S30:GY fs30:=fun h=>Yrw (S29 h) (Yag (i:=82) rfl)
theorem S31:GY fs31:=fun h=>Yry (S30 h) (Yag (i:=73) rfl)
theorem S32:GY fs32:=fun h=>YrA (S31 h) (Yag (i:=56) rfl)
theorem S33:GY fs33:=fun h=>YrC (S32 h) (Yag (i:=59) rfl)
theorem Yv5{g i f:Nat}(h:Yu2 g fmL i 0=true)(hg:g≠0)(hf:fm f=g):f=i:=YjQ h hg hf
theorem YwL: ∀f,fm f=169->YtL Tryd.prog f=true/\ ∃ρ:Go.Shelf.Ren,Go.Proofs.Lays.n156 Tryd.prog ρ/\Go.Proofs.Builder.Extra Tryd.prog ρ/\ρ.f 156=f:=fun f h=>by
  have:=Yv5 (i:=60) (by kernel_rfl) (by decide) h;subst this
  exact⟨by kernel_rfl,_,Tryd.lays156,Tryd.bextra,by kernel_rfl⟩
theorem S34:GY fs34:=fun h=>YrE (S33 h) (YwL)
theorem S35:GY fs35:=fun h=>YrG (S34 h) (Yag (i:=74) rfl)
theorem S36:GY fs36:=fun h=>YrI (S35 h) (Yag (i:=58) rfl)
theorem S37:GY fs37:=fun h=>YrK (S36 h) (Yag (i:=57) rfl)
theorem S38:GY fs38:=fun h=>YrR (S37 h) (Yag (i:=47) rfl)
theorem YwI:BldOK Tryd.prog fm Tryd.lays156_ren:=⟨Tryd.bextra,by kernel_rfl⟩
theorem YwM: ∀f,fm f=164->YtL Tryd.prog f=true/\ ∃ρ:Go.Shelf.Ren,Go.Proofs.Lays.n240 Tryd.prog ρ/\BldOK Tryd.prog fm ρ/\ρ.f 240=f:=fun f h=>by
  have:=Yv5 (i:=55) (by kernel_rfl) (by decide) h;subst this
  exact⟨by kernel_rfl,_,Tryd.lays240',YwI,by kernel_rfl⟩
theorem S39:GY fs39:=fun h=>YrT (S38 h) (YwM)
theorem S40:GY fs40:=fun h=>YrV (S39 h) (Yag (i:=46) rfl)
theorem YwN: ∀f,fm f=151->YtL Tryd.prog f=true/\ ∃ρ:Go.Shelf.Ren,Go.Proofs.Lays.n169 Tryd.prog ρ/\BldOK Tryd.prog fm ρ/\fm.bu=ρ.t 5/\ρ.f 169=f:=fun f h=>by
  have:=Yv5 (i:=48) (by kernel_rfl) (by decide) h;subst this
  exact⟨by kernel_rfl,_,Tryd.lays169',YwI,by kernel_rfl,by kernel_rfl⟩
theorem S41:GY fs41:=fun h=>YrX (S40 h) (YwN)
theorem S42:GY fs42:=fun h=>Yr2 (S41 h) (Yag (i:=28) rfl)
theorem S43:GY fs43:=fun h=>Yr4 (S42 h) (Yag (i:=10) rfl)
theorem S44:GY fs44:=fun h=>Yr9 (S43 h) (Yag (i:=11) rfl)
theorem S45:GY fs45:=S44
theorem S46:GY fs46:=S45
theorem S47:GY fs47:=S46
theorem S48:GY fs48:=S47
theorem S49:GY fs49:=S48
theorem S50:GY fs50:=S49
theorem S51:GY fs51:=S50
theorem S52:GY fs52:=fun h=>Ysb (S51 h) (fun f h=>by
  have:=Yv5 (i:=20) (by kernel_rfl) (by decide) h;subst this
  exact⟨by kernel_rfl,Tryd.pruneC (by kernel_rfl)⟩)
theorem S53:GY fs53:=fun h=>Ysg (S52 h) (Yag (i:=42) rfl)
theorem S54:GY fs54:=fun h=>Ysl (S53 h) (Yag (i:=43) rfl)
theorem S55:GY fs55:=fun h=>YsA (S54 h) (Yag (i:=22) rfl)
theorem S56:GY fs56:=fun h=>YsF (S55 h) (Yag (i:=24) rfl)
theorem S57:GY fs57:=fun h=>YsK (S56 h) (Yag (i:=21) rfl)
theorem S58:GY fs58:=fun h=>YsM (S57 h) (Yag (i:=7) rfl)
end Go.Abs.G1p
