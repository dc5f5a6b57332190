/- The functions of this seat's program are those of the texts: each is compared by the kernel. No condition. -/
import Derived.Test.YtkgoecnchnbbfaaG
import Derived.Test.YtkgoecnchnbbfaaB
import Derived.Test.YtkgoecnchnbbfaaL
import Derived.Test.YtkgoecnchnbbfaaChecked
set_option linter.unusedVariables false
set_option linter.unusedSimpArgs false
set_option linter.unusedSectionVars false
namespace Go.Abs.G03
open Go Go.Abs Go.Proofs
def fmL:List Nat:=[0,0,1075,219,220,221,222,223,224,225,226,227,228,229,230,231,232,233,234,235,118,236,237,238,239,240,241,242,243,244,245,246,247,248,249,250,251,252,253,254,255,256,257,258,259,260,261,262,263,264,265,266,267,268,269,173,270,271,272,273,274,275,276,277,278,279,280,281,282,283,284,285,286,287,288,289,290,291,292,293,294,295,296,149,151,297,298,299,300,301,163,302,303,304,305,306,307,308,309,310,164,311,312,313,314,315,316,317,318,319,186,187,320,321,0,322,195,196,323,324,325,326,327,0,0,0,0,0,0,0,0,0,0,0,0,214,0,0,215,216,0]
def fm:FM:={f:=fmOf fmL,own:=[("value.go:141",12)],dat:=[],mks:=[],bt:=105,bu:=5}
theorem mixed:Try.prog.follows .mixedOrders=true:=by kernel_rfl
abbrev GY(fs:Lo->List FnE):Prop:= ∀{lo:Lo},LoOK lo->GZ Try.prog fm fs lo
theorem S0:GY fs0:=fun h=>⟨h,mixed,YpD Try.prog fm pf []⟩
theorem S1:GY fs1:=fun h=>YqV (S0 h) (Yab (i:=77) rfl)
theorem S2:GY fs2:=fun h=>YqX (S1 h) (Yab (i:=78) rfl)
theorem S3:GY fs3:=fun h=>YqZ (S2 h) (Yab (i:=39) rfl)
theorem S4:GY fs4:=fun h=>Yq4 (S3 h) (Yab (i:=40) rfl)
theorem S5:GY fs5:=fun h=>Yq9 (S4 h) (Yab (i:=55) rfl)
theorem S6:GY fs6:=fun h=>Yrb (S5 h) (Yab (i:=41) rfl)
theorem S7:GY fs7:=fun h=>Yrd (S6 h) (Yab (i:=69) rfl)
theorem S8:GY fs8:=fun h=>Yrf (S7 h) (Yab (i:=80) rfl)
theorem S9:GY fs9:=fun h=>Yrk (S8 h) (Yab (i:=98) rfl)
theorem S10:GY fs10:=fun h=>Yrm (S9 h) (Yab (i:=79) rfl)
theorem S11:GY fs11:=fun h=>Yro (S10 h) (Yab (i:=42) rfl)
theorem S12:GY fs12:=fun h=>Yrv (S11 h) (Yab (i:=14) rfl)
theorem S13:GY fs13:=fun h=>YrA (S12 h) (Yab (i:=99) rfl)
theorem S14:GY fs14:=fun h=>YrH (S13 h) (Yab (i:=82) rfl)
theorem YyN{g i f:Nat}(h:Yxu g fmL i 0=true)(hg:g≠0)(hf:fm f=g):f=i:=YjZ h hg hf
theorem YyO:BldOK Try.prog fm Try.lays240_ren:=⟨Try.bextra240,by kernel_rfl⟩
theorem YzD: ∀f,fm f=164->Yv8 Try.prog f=true/\ ∃ρ:Go.Shelf.Ren,Go.Proofs.Lays.n240 Try.prog ρ/\BldOK Try.prog fm ρ/\ρ.f 240=f:=fun f h=>by
  have:=YyN (i:=100) (by kernel_rfl) (by decide) h;subst this
  exact⟨by kernel_rfl,_,Try.lays240',YyO,by kernel_rfl⟩
theorem S15:GY fs15:=fun h=>YrJ (S14 h) (YzD)
theorem S16:GY fs16:=fun h=>YrL (S15 h) (Yab (i:=83) rfl)
theorem YyP:BldOK Try.prog fm Try.lays169_ren:=⟨Try.bextra169,by kernel_rfl⟩
theorem YzE: ∀f,fm f=151->Yv8 Try.prog f=true/\ ∃ρ:Go.Shelf.Ren,Go.Proofs.Lays.n169 Try.prog ρ/\BldOK Try.prog fm ρ/\fm.bu=ρ.t 5/\ρ.f 169=f:=fun f h=>by
  have:=YyN (i:=84) (by kernel_rfl) (by decide) h;subst this
  exact⟨by kernel_rfl,_,Try.lays169',YyP,by kernel_rfl,by kernel_rfl⟩
theorem S17:GY fs17:=fun h=>YrN (S16 h) (YzE)
theorem S18:GY fs18:=fun h=>YrS (S17 h) (Yab (i:=46) rfl)
theorem S19:GY fs19:=fun h=>Yr1 (S18 h) (Yab (i:=17) rfl)
theorem S20:GY fs20:=fun h=>Yr3 (S19 h) (Yab (i:=54) rfl)
theorem S21:GY fs21:=fun h=>Yr8 (S20 h) (Yab (i:=56) rfl)
theorem S22:GY fs22:=fun h=>Ysd (S21 h) (Yab (i:=111) rfl)
theorem S23:GY fs23:=fun h=>Ysf (S22 h) (Yab (i:=90) rfl)
theorem S24:GY fs24:=fun h=>Ysh (S23 h) (Yab (i:=120) rfl)
theorem S25:GY fs25:=fun h=>Ysj (S24 h) (Yab (i:=107) rfl)
theorem S26:GY fs26:=fun h=>Ysq (S25 h) (Yab (i:=101) rfl)
theorem S27:GY fs27:=fun h=>Ysr (S26 h) trivial
theorem S28:GY fs28:=fun h=>Yss (S27 h) trivial
theorem S29:GY fs29:=fun h=>Yst (S28 h) trivial
theorem S30:GY fs30:=fun h=>Ysu (S29 h) trivial
theorem S31:GY fs31:=fun h=>Ysv (S30 h) trivial
theorem S32:GY fs32:=fun h=>Ysw (S31 h) trivial
theorem S33:GY fs33:=fun h=>Ysx (S32 h) trivial
theorem S34:GY fs34:=fun h=>YsI (S33 h) (Yab (i:=89) rfl)
theorem S35:GY fs35:=fun h=>YsK (S34 h) (Yab (i:=57) rfl)
theorem YzF: ∀f,fm f=271->Yv8 Try.prog f=true/\ ∃ρ:Go.Shelf.Ren,Go.Proofs.Lays.n190 Try.prog ρ/\ρ.f 190=f:=fun f h=>by
  have:=YyN (i:=57) (by kernel_rfl) (by decide) h;subst this
  exact⟨by kernel_rfl,_,Try.lays190,by kernel_rfl⟩
theorem S36:GY fs36:=fun h=>YsM (S35 h) (YzF)
theorem S37:GY fs37:=fun h=>YsZ (S36 h) (Yab (i:=22) rfl)
theorem S38:GY fs38:=fun h=>Ys4 (S37 h) (Yab (i:=52) rfl)
theorem S39:GY fs39:=fun h=>Ys9 (S38 h) (Yab (i:=88) rfl)
theorem S40:GY fs40:=fun h=>Ytb (S39 h) (Yab (i:=87) rfl)
theorem S41:GY fs41:=fun h=>Ytg (S40 h) (Yab (i:=63) rfl)
theorem S42:GY fs42:=fun h=>Yti (S41 h) (Yab (i:=86) rfl)
theorem S43:GY fs43:=fun h=>Ytn (S42 h) (Yab (i:=53) rfl)
theorem S44:GY fs44:=fun h=>Ytp (S43 h) (Yab (i:=21) rfl)
theorem S45:GY fs45:=fun h=>Ytr (S44 h) (Yab (i:=13) rfl)
theorem S46:GY fs46:=fun h=>Ytt (S45 h) (Yab (i:=81) rfl)
theorem S47:GY fs47:=fun h=>Yty (S46 h) (Yab (i:=43) rfl)
theorem S48:GY fs48:=fun h=>YtD (S47 h) (Yab (i:=58) rfl)
theorem S49:GY fs49:=fun h=>YtI (S48 h) (Yab (i:=44) rfl)
theorem S50:GY fs50:=fun h=>YtK (S49 h) (Yab (i:=70) rfl)
theorem S51:GY fs51:=fun h=>YtP (S50 h) (Yab (i:=45) rfl)
theorem S52:GY fs52:=fun h=>YtU (S51 h) (Yab (i:=15) rfl)
theorem S53:GY fs53:=S52
theorem S54:GY fs54:=S53
theorem S55:GY fs55:=S54
theorem S56:GY fs56:=S55
theorem S57:GY fs57:=S56
theorem S58:GY fs58:=fun h=>YtW (S57 h) (Yab (i:=92) rfl)
theorem S59:GY fs59:=fun h=>Yt1 (S58 h) (Yab (i:=112) rfl)
theorem S60:GY fs60:=fun h=>Yt3 (S59 h) (Yab (i:=91) rfl)
theorem S61:GY fs61:=fun h=>Yt8 (S60 h) (Yab (i:=60) rfl)
theorem S62:GY fs62:=fun h=>Yua (S61 h) (Yab (i:=85) rfl)
theorem S63:GY fs63:=S62
theorem S64:GY fs64:=S63
theorem S65:GY fs65:=fun h=>Yuf (S64 h) (Yab (i:=50) rfl)
theorem S66:GY fs66:=fun h=>Yuh (S65 h) (Yab (i:=51) rfl)
theorem S67:GY fs67:=fun h=>Yum (S66 h) (Yab (i:=19) rfl)
theorem S68:GY fs68:=S67
theorem S69:GY fs69:=S68
theorem S70:GY fs70:=S69
theorem S71:GY fs71:=S70
theorem S72:GY fs72:=fun h=>Yuo (S71 h) (Yab (i:=36) rfl)
theorem S73:GY fs73:=S72
theorem S74:GY fs74:=S73
theorem S75:GY fs75:=S74
theorem S76:GY fs76:=S75
theorem S77:GY fs77:=S76
theorem S78:GY fs78:=S77
theorem S79:GY fs79:=S78
theorem S80:GY fs80:=fun h=>Yuq (S79 h) (Yab (i:=64) rfl)
theorem S81:GY fs81:=fun h=>Yuv (S80 h) (Yab (i:=63) rfl)
theorem S82:GY fs82:=fun h=>Yux (S81 h) (Yab (i:=27) rfl)
theorem S83:GY fs83:=fun h=>YuC (S82 h) (Yab (i:=28) rfl)
theorem S84:GY fs84:=S83
theorem S85:GY fs85:=S84
theorem S86:GY fs86:=S85
theorem S87:GY fs87:=fun h=>YuE (S86 h) (Yab (i:=97) rfl)
theorem S88:GY fs88:=fun h=>YuG (S87 h) (Yab (i:=75) rfl)
theorem S89:GY fs89:=S88
theorem S90:GY fs90:=S89
theorem S91:GY fs91:=S90
theorem S92:GY fs92:=fun h=>YuI (S91 h) (Yab (i:=76) rfl)
theorem S93:GY fs93:=S92
theorem S94:GY fs94:=S93
theorem S95:GY fs95:=S94
theorem S96:GY fs96:=fun h=>YuN (S95 h) (Yab (i:=66) rfl)
theorem S97:GY fs97:=S96
theorem S98:GY fs98:=S97
theorem S99:GY fs99:=S98
theorem S100:GY Yzt:=S99
theorem S101:GY Yze:=S100
theorem S102:GY Yys:=fun h=>YuP (S101 h) (Yab (i:=73) rfl)
theorem S103:GY YyL:=fun h=>YuU (S102 h) (Yab (i:=72) rfl)
theorem YzG: ∀f,fm f=288->Yv8 Try.prog f=true/\ ∃(ρ:Go.Shelf.Ren) (z:List Value),InsL Try.prog ρ z/\z.length=2/\ρ.f 22=f:=fun f h=>by
  have:=YyN (i:=74) (by kernel_rfl) (by decide) h;subst this
  exact⟨by kernel_rfl,_,_,Try.insL,rfl,by kernel_rfl⟩
theorem S104:GY YyM:=fun h=>YuW (S103 h) (YzG)
theorem S105:GY Yyt:=fun h=>YuY (S104 h) (Yab (i:=37) rfl)
theorem S106:GY Yyu:=fun h=>Yu3 (S105 h) (Yab (i:=68) rfl)
theorem S107:GY Yyv:=fun h=>Yu8 (S106 h) (Yab (i:=38) rfl)
theorem S108:GY Yzu:=fun h=>Yvd (S107 h) (Yab (i:=11) rfl)
end Go.Abs.G03
