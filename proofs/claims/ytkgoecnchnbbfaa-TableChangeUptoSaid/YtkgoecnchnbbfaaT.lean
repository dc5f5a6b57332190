/- The functions of this seat's program are those of the texts: each is compared by the kernel. No condition. -/
import Derived.Test.YtkgoecnchnbbfaaG
import Derived.Test.YtkgoecnchnbbfaaB
import Derived.Test.YtkgoecnchnbbfaaL
import Derived.Test.YtkgoecnchnbbfaaChecked
set_option linter.unusedVariables false
set_option linter.unusedSimpArgs false
set_option linter.unusedSectionVars false
namespace Go.Abs.G3c
open Go Go.Abs Go.Proofs
def fmL:List Nat:=[0,0,1075,219,220,221,222,223,224,225,226,227,228,229,230,231,232,233,234,235,118,236,237,238,239,240,241,242,243,244,245,246,247,248,249,250,251,252,253,254,255,256,257,258,259,260,261,262,263,264,265,266,267,268,269,173,270,271,272,273,274,275,276,277,278,279,280,281,282,283,284,285,286,287,288,289,290,291,292,293,294,295,296,149,151,297,298,299,300,301,163,302,303,304,305,306,307,308,309,310,164,311,312,313,314,315,316,317,318,319,186,187,320,321,0,322,195,196,323,324,325,326,327,0,0,0,0,0,0,0,0,0,0,0,0,214,0,0,215,216,0]
def fm:FM:={f:=fmOf fmL,own:=[("value.go:141",12),("table.go:73",1000000),("ref.go:95",1000000)],dat:=[],mks:=["table.go:67", "ref.go:88"],bt:=105,bu:=5}
theorem mixed:Try.prog.follows .mixedOrders=true:=by kernel_rfl
abbrev GY(fs:Lo->List FnE):Prop:= ∀{lo:Lo},LoOK lo->GZ Try.prog fm fs lo
theorem S0:GY fs0:=fun h=>⟨h,mixed,YpZ Try.prog fm pf []⟩
theorem S1:GY fs1:=fun h=>Yrf (S0 h) (Yab (i:=77) rfl)
theorem S2:GY fs2:=fun h=>Yrh (S1 h) (Yab (i:=78) rfl)
theorem S3:GY fs3:=fun h=>Yrj (S2 h) (Yab (i:=39) rfl)
theorem S4:GY fs4:=fun h=>Yro (S3 h) (Yab (i:=40) rfl)
theorem S5:GY fs5:=fun h=>Yrt (S4 h) (Yab (i:=55) rfl)
theorem S6:GY fs6:=fun h=>Yrv (S5 h) (Yab (i:=41) rfl)
theorem S7:GY fs7:=fun h=>Yrx (S6 h) (Yab (i:=69) rfl)
theorem S8:GY fs8:=fun h=>Yrz (S7 h) (Yab (i:=80) rfl)
theorem S9:GY fs9:=fun h=>YrE (S8 h) (Yab (i:=98) rfl)
theorem S10:GY fs10:=fun h=>YrG (S9 h) (Yab (i:=79) rfl)
theorem S11:GY fs11:=fun h=>YrI (S10 h) (Yab (i:=42) rfl)
theorem S12:GY fs12:=fun h=>YrP (S11 h) (Yab (i:=14) rfl)
theorem S13:GY fs13:=fun h=>YrU (S12 h) (Yab (i:=99) rfl)
theorem S14:GY fs14:=fun h=>Yr1 (S13 h) (Yab (i:=82) rfl)
theorem Yzd{g i f:Nat}(h:Yxz g fmL i 0=true)(hg:g≠0)(hf:fm f=g):f=i:=Yj9 h hg hf
theorem YyJ:BldOK Try.prog fm Try.lays240_ren:=⟨Try.bextra240,by kernel_rfl⟩
theorem YzC: ∀f,fm f=164->Ywa Try.prog f=true/\ ∃ρ:Go.Shelf.Ren,Go.Proofs.Lays.n240 Try.prog ρ/\BldOK Try.prog fm ρ/\ρ.f 240=f:=fun f h=>by
  have:=Yzd (i:=100) (by kernel_rfl) (by decide) h;subst this
  exact⟨by kernel_rfl,_,Try.lays240',YyJ,by kernel_rfl⟩
theorem S15:GY fs15:=fun h=>Yr3 (S14 h) (YzC)
theorem S16:GY fs16:=fun h=>Yr5 (S15 h) (Yab (i:=83) rfl)
theorem YyK:BldOK Try.prog fm Try.lays169_ren:=⟨Try.bextra169,by kernel_rfl⟩
theorem YzD: ∀f,fm f=151->Ywa Try.prog f=true/\ ∃ρ:Go.Shelf.Ren,Go.Proofs.Lays.n169 Try.prog ρ/\BldOK Try.prog fm ρ/\fm.bu=ρ.t 5/\ρ.f 169=f:=fun f h=>by
  have:=Yzd (i:=84) (by kernel_rfl) (by decide) h;subst this
  exact⟨by kernel_rfl,_,Try.lays169',YyK,by kernel_rfl,by kernel_rfl⟩
theorem S17:GY fs17:=fun h=>Yr7 (S16 h) (YzD)
theorem S18:GY fs18:=fun h=>Ysc (S17 h) (Yab (i:=46) rfl)
theorem S19:GY fs19:=fun h=>Ysl (S18 h) (Yab (i:=17) rfl)
theorem S20:GY fs20:=fun h=>Ysn (S19 h) (Yab (i:=54) rfl)
theorem S21:GY fs21:=fun h=>Yss (S20 h) (Yab (i:=56) rfl)
theorem S22:GY fs22:=fun h=>Ysx (S21 h) (Yab (i:=111) rfl)
theorem S23:GY fs23:=fun h=>Ysz (S22 h) (Yab (i:=90) rfl)
theorem S24:GY fs24:=fun h=>YsB (S23 h) (Yab (i:=120) rfl)
theorem S25:GY fs25:=fun h=>YsD (S24 h) (Yab (i:=107) rfl)
theorem S26:GY fs26:=fun h=>YsK (S25 h) (Yab (i:=101) rfl)
theorem S27:GY fs27:=fun h=>YsL (S26 h) trivial
theorem S28:GY fs28:=fun h=>YsM (S27 h) trivial
theorem S29:GY fs29:=fun h=>YsN (S28 h) trivial
theorem S30:GY fs30:=fun h=>YsO (S29 h) trivial
theorem S31:GY fs31:=fun h=>YsP (S30 h) trivial
theorem S32:GY fs32:=fun h=>YsQ (S31 h) trivial
theorem S33:GY fs33:=fun h=>YsR (S32 h) trivial
theorem S34:GY fs34:=fun h=>Ys2 (S33 h) (Yab (i:=89) rfl)
theorem S35:GY fs35:=fun h=>Ys4 (S34 h) (Yab (i:=57) rfl)
theorem YzE: ∀f,fm f=271->Ywa Try.prog f=true/\ ∃ρ:Go.Shelf.Ren,Go.Proofs.Lays.n190 Try.prog ρ/\ρ.f 190=f:=fun f h=>by
  have:=Yzd (i:=57) (by kernel_rfl) (by decide) h;subst this
  exact⟨by kernel_rfl,_,Try.lays190,by kernel_rfl⟩
theorem S36:GY fs36:=fun h=>Ys6 (S35 h) (YzE)
theorem S37:GY fs37:=fun h=>Ytj (S36 h) (Yab (i:=22) rfl)
theorem S38:GY fs38:=fun h=>Yto (S37 h) (Yab (i:=52) rfl)
theorem S39:GY fs39:=fun h=>Ytt (S38 h) (Yab (i:=88) rfl)
theorem S40:GY fs40:=fun h=>Ytv (S39 h) (Yab (i:=87) rfl)
theorem S41:GY fs41:=fun h=>YtA (S40 h) (Yab (i:=63) rfl)
theorem S42:GY fs42:=fun h=>YtC (S41 h) (Yab (i:=86) rfl)
theorem S43:GY fs43:=fun h=>YtH (S42 h) (Yab (i:=53) rfl)
theorem S44:GY fs44:=fun h=>YtJ (S43 h) (Yab (i:=21) rfl)
theorem S45:GY fs45:=fun h=>YtL (S44 h) (Yab (i:=13) rfl)
theorem S46:GY fs46:=fun h=>YtN (S45 h) (Yab (i:=81) rfl)
theorem S47:GY fs47:=fun h=>YtS (S46 h) (Yab (i:=43) rfl)
theorem S48:GY fs48:=fun h=>YtX (S47 h) (Yab (i:=58) rfl)
theorem S49:GY fs49:=fun h=>Yt2 (S48 h) (Yab (i:=44) rfl)
theorem S50:GY fs50:=fun h=>Yt4 (S49 h) (Yab (i:=70) rfl)
theorem S51:GY fs51:=fun h=>Yt9 (S50 h) (Yab (i:=45) rfl)
theorem S52:GY fs52:=fun h=>Yue (S51 h) (Yab (i:=15) rfl)
theorem S53:GY fs53:=S52
theorem S54:GY fs54:=fun h=>Yug (S53 h) (Yab (i:=16) rfl)
theorem S55:GY fs55:=S54
theorem S56:GY fs56:=S55
theorem S57:GY fs57:=S56
theorem S58:GY fs58:=fun h=>Yui (S57 h) (Yab (i:=92) rfl)
theorem S59:GY fs59:=fun h=>Yun (S58 h) (Yab (i:=112) rfl)
theorem S60:GY fs60:=fun h=>Yup (S59 h) (Yab (i:=91) rfl)
theorem S61:GY fs61:=fun h=>Yuu (S60 h) (Yab (i:=60) rfl)
theorem S62:GY fs62:=fun h=>Yuw (S61 h) (Yab (i:=85) rfl)
theorem S63:GY fs63:=S62
theorem S64:GY fs64:=S63
theorem S65:GY fs65:=fun h=>YuB (S64 h) (Yab (i:=50) rfl)
theorem S66:GY fs66:=fun h=>YuD (S65 h) (Yab (i:=51) rfl)
theorem S67:GY fs67:=fun h=>YuI (S66 h) (Yab (i:=19) rfl)
theorem S68:GY fs68:=S67
theorem S69:GY fs69:=S68
theorem S70:GY fs70:=S69
theorem S71:GY fs71:=S70
theorem S72:GY fs72:=S71
theorem S73:GY fs73:=S72
theorem S74:GY fs74:=S73
theorem S75:GY fs75:=S74
theorem S76:GY fs76:=S75
theorem S77:GY fs77:=S76
theorem S78:GY fs78:=S77
theorem S79:GY fs79:=S78
theorem S80:GY fs80:=fun h=>YuK (S79 h) (Yab (i:=64) rfl)
theorem S81:GY fs81:=fun h=>YuP (S80 h) (Yab (i:=63) rfl)
theorem S82:GY fs82:=fun h=>YuR (S81 h) (Yab (i:=27) rfl)
theorem S83:GY fs83:=fun h=>YuW (S82 h) (Yab (i:=28) rfl)
theorem S84:GY fs84:=S83
theorem S85:GY fs85:=S84
theorem S86:GY fs86:=S85
theorem S87:GY fs87:=fun h=>YuY (S86 h) (Yab (i:=97) rfl)
theorem S88:GY fs88:=fun h=>Yu0 (S87 h) (Yab (i:=75) rfl)
theorem S89:GY fs89:=S88
theorem S90:GY fs90:=S89
theorem S91:GY fs91:=S90
theorem S92:GY fs92:=fun h=>Yu2 (S91 h) (Yab (i:=76) rfl)
theorem S93:GY fs93:=S92
theorem S94:GY fs94:=S93
theorem S95:GY fs95:=S94
theorem S96:GY fs96:=fun h=>Yu7 (S95 h) (Yab (i:=66) rfl)
theorem S97:GY fs97:=fun h=>Yu9 (S96 h) (Yab (i:=32) rfl)
theorem S98:GY fs98:=fun h=>Yve (S97 h) (Yab (i:=68) rfl)
theorem S99:GY fs99:=fun h=>Yvg (S98 h) (Yab (i:=33) rfl)
theorem S100:GY Yzs:=fun h=>Yvi (S99 h) (Yab (i:=9) rfl)
end Go.Abs.G3c
