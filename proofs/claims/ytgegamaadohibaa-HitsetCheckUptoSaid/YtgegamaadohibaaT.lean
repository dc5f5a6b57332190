/- The functions of this seat's program are those of the texts: each is compared by the kernel. No condition. -/
import Derived.Test.YtgegamaadohibaaG
import Derived.Test.YtgegamaadohibaaB
import Derived.Test.YtgegamaadohibaaL
import Derived.Test.YtgegamaadohibaaChecked
set_option linter.unusedVariables false
set_option linter.unusedSimpArgs false
set_option linter.unusedSectionVars false
namespace Go.Abs.G39
open Go Go.Abs Go.Proofs
def fmL:List Nat:=[0,0,1075,391,392,393,394,395,396,397,398,399,400,401,402,403,404,405,406,407,408,409,410,411,412,413,143,414,415,416,417,418,419,420,421,422,423,424,425,426,427,147,428,429,430,431,432,433,434,435,436,437,438,439,440,441,442,162,163,443,444,445,446,447,448,449,245,450,451,452,453,177,178,179,180,181,182,183,184,185,186,187,454,455,456,457,194,195,196,197,198,199,458,208,0,0,0,0,0,0,0,0,0,0,0,0,214,0,0,215,0]
def fm:FM:={f:=fmOf fmL,own:=[],dat:=[],mks:=["law.go:106"],bt:=1000000,bu:=5}
theorem mixed:Try.prog.follows .mixedOrders=true:=by kernel_rfl
abbrev GY(fs:Lo->List FnE):Prop:= ∀{lo:Lo},LoOK lo->GZ Try.prog fm fs lo
theorem S0:GY fs0:=fun h=>⟨h,mixed,YqT Try.prog fm pf []⟩
theorem S1:GY fs1:=fun h=>YrM (S0 h) (Yab (i:=33) rfl)
theorem S2:GY fs2:=fun h=>YrV (S1 h) (Yab (i:=13) rfl)
theorem S3:GY fs3:=fun h=>YrX (S2 h) (Yab (i:=38) rfl)
theorem S4:GY fs4:=fun h=>Yr4 (S3 h) (Yab (i:=69) rfl)
theorem S5:GY fs5:=fun h=>Yr5 (S4 h) trivial
theorem S6:GY fs6:=fun h=>Yse (S5 h) (Yab (i:=55) rfl)
theorem S7:GY fs7:=fun h=>Ysg (S6 h) (Yab (i:=37) rfl)
theorem S8:GY fs8:=fun h=>Ysi (S7 h) (Yab (i:=40) rfl)
theorem S9:GY fs9:=fun h=>Ysn (S8 h) (Yab (i:=56) rfl)
theorem S10:GY fs10:=fun h=>Ysp (S9 h) (Yab (i:=39) rfl)
theorem S11:GY fs11:=fun h=>Ysu (S10 h) (Yab (i:=81) rfl)
theorem S12:GY fs12:=fun h=>Ysw (S11 h) (Yab (i:=58) rfl)
theorem S13:GY fs13:=fun h=>Ysy (S12 h) (Yab (i:=91) rfl)
theorem S14:GY fs14:=fun h=>YsA (S13 h) (Yab (i:=77) rfl)
theorem S15:GY fs15:=fun h=>YsH (S14 h) (Yab (i:=71) rfl)
theorem S16:GY fs16:=fun h=>YsI (S15 h) trivial
theorem S17:GY fs17:=fun h=>YsJ (S16 h) trivial
theorem S18:GY fs18:=fun h=>YsK (S17 h) trivial
theorem S19:GY fs19:=fun h=>YsL (S18 h) trivial
theorem S20:GY fs20:=fun h=>YsM (S19 h) trivial
theorem S21:GY fs21:=fun h=>YsN (S20 h) trivial
theorem S22:GY fs22:=fun h=>YsO (S21 h) trivial
theorem S23:GY fs23:=fun h=>YsZ (S22 h) (Yab (i:=57) rfl)
theorem S24:GY fs24:=fun h=>Ys1 (S23 h) (Yab (i:=41) rfl)
theorem Yz3{g i f:Nat}(h:Yyi g fmL i 0=true)(hg:g≠0)(hf:fm f=g):f=i:=YkP h hg hf
theorem Yz7: ∀f,fm f=147->YwY Try.prog f=true/\ ∃ρ:Go.Shelf.Ren,Go.Proofs.Lays.n189 Try.prog ρ/\ρ.f 189=f:=fun f h=>by
  have:=Yz3 (i:=41) (by kernel_rfl) (by decide) h;subst this
  exact⟨by kernel_rfl,_,Try.lays189,by kernel_rfl⟩
theorem S25:GY fs25:=fun h=>Ys3 (S24 h) (Yz7)
theorem S26:GY fs26:=fun h=>Ytg (S25 h) (Yab (i:=16) rfl)
theorem S27:GY fs27:=fun h=>Ytl (S26 h) (Yab (i:=64) rfl)
theorem S28:GY fs28:=fun h=>Ytn (S27 h) (Yab (i:=48) rfl)
theorem S29:GY fs29:=fun h=>Yts (S28 h) (Yab (i:=25) rfl)
theorem S30:GY fs30:=fun h=>Ytu (S29 h) (Yab (i:=43) rfl)
theorem S31:GY fs31:=fun h=>Ytw (S30 h) (Yab (i:=59) rfl)
theorem S32:GY fs32:=fun h=>Yty (S31 h) (Yab (i:=83) rfl)
theorem S33:GY fs33:=fun h=>YtD (S32 h) (Yab (i:=56) rfl)
theorem S34:GY fs34:=fun h=>YtF (S33 h) (Yab (i:=39) rfl)
theorem S35:GY fs35:=fun h=>YtH (S34 h) (Yab (i:=67) rfl)
theorem S36:GY fs36:=fun h=>YtJ (S35 h) (Yab (i:=82) rfl)
theorem S37:GY fs37:=fun h=>YtO (S36 h) (Yab (i:=65) rfl)
theorem S38:GY fs38:=fun h=>YtQ (S37 h) (Yab (i:=49) rfl)
theorem S39:GY fs39:=fun h=>YtS (S38 h) (Yab (i:=60) rfl)
theorem S40:GY fs40:=fun h=>YtU (S39 h) (Yab (i:=66) rfl)
theorem S41:GY fs41:=fun h=>YtW (S40 h) (Yab (i:=83) rfl)
theorem S42:GY fs42:=fun h=>Yt1 (S41 h) (Yab (i:=56) rfl)
theorem S43:GY fs43:=fun h=>Yt3 (S42 h) (Yab (i:=39) rfl)
theorem S44:GY fs44:=fun h=>Yt5 (S43 h) (Yab (i:=67) rfl)
theorem S45:GY fs45:=fun h=>Yue (S44 h) (Yab (i:=52) rfl)
theorem S46:GY fs46:=fun h=>Yul (S45 h) (Yab (i:=61) rfl)
theorem S47:GY fs47:=fun h=>Yuq (S46 h) (Yab (i:=44) rfl)
theorem S48:GY fs48:=fun h=>Yus (S47 h) (Yab (i:=21) rfl)
theorem S49:GY fs49:=fun h=>Yux (S48 h) (Yab (i:=34) rfl)
theorem S50:GY fs50:=fun h=>Yuz (S49 h) (Yab (i:=35) rfl)
theorem S51:GY fs51:=fun h=>YuG (S50 h) (Yab (i:=62) rfl)
theorem S52:GY fs52:=fun h=>YuJ (S51 h) (Yab (i:=46) rfl)
theorem S53:GY fs53:=fun h=>YuL (S52 h) (Yab (i:=23) rfl)
theorem S54:GY fs54:=fun h=>YuN (S53 h) (Yab (i:=12) rfl)
theorem S55:GY fs55:=fun h=>YuW (S54 h) (Yab (i:=14) rfl)
theorem S56:GY fs56:=S55
theorem S57:GY fs57:=fun h=>Yu1 (S56 h) (Yab (i:=36) rfl)
theorem S58:GY fs58:=fun h=>Yu8 (S57 h) (Yab (i:=15) rfl)
theorem S59:GY fs59:=fun h=>Yvd (S58 h) (Yab (i:=42) rfl)
theorem S60:GY fs60:=fun h=>Yvi (S59 h) (Yab (i:=17) rfl)
theorem S61:GY fs61:=S60
theorem S62:GY fs62:=fun h=>Yvn (S61 h) (Yab (i:=45) rfl)
theorem S63:GY fs63:=fun h=>Yvs (S62 h) (Yab (i:=22) rfl)
theorem S64:GY fs64:=S63
theorem S65:GY fs65:=fun h=>Yvx (S64 h) (Yab (i:=20) rfl)
theorem S66:GY fs66:=S65
theorem S67:GY fs67:=S66
theorem S68:GY fs68:=fun h=>Yvz (S67 h) (Yab (i:=31) rfl)
theorem S69:GY fs69:=fun h=>YvG (S68 h) (Yab (i:=63) rfl)
theorem S70:GY fs70:=fun h=>YvP (S69 h) (Yab (i:=29) rfl)
theorem S71:GY fs71:=fun h=>YvS (S70 h) (Yab (i:=47) rfl)
theorem S72:GY fs72:=fun h=>YvU (S71 h) (Yab (i:=24) rfl)
theorem S73:GY fs73:=S72
theorem S74:GY fs74:=S73
theorem S75:GY fs75:=S74
theorem S76:GY fs76:=S75
theorem S77:GY fs77:=S76
theorem S78:GY fs78:=S77
theorem S79:GY fs79:=S78
theorem S80:GY fs80:=S79
theorem S81:GY fs81:=S80
theorem S82:GY fs82:=S81
theorem S83:GY fs83:=S82
theorem S84:GY fs84:=S83
theorem Yz8: ∀f,fm f=456->YwY Try.prog f=true/\ ∃ρ:Go.Shelf.Ren,Go.Proofs.Lays8.n4 Try.prog ρ/\ρ.f 4=f/\Yx7 Try.prog (ρ.t 25) 2=true:=fun f h=>by
  have:=Yz3 (i:=84) (by kernel_rfl) (by decide) h;subst this
  exact⟨by kernel_rfl,_,Try.lays8_4,by kernel_rfl,by kernel_rfl⟩
theorem S85:GY fs85:=fun h=>YvW (S84 h) (Yz8)
theorem S86:GY fs86:=fun h=>Yv3 (S85 h) (Yab (i:=68) rfl)
theorem S87:GY fs87:=fun h=>Yv6 (S86 h) (Yab (i:=53) rfl)
theorem S88:GY fs88:=fun h=>Yv8 (S87 h) (Yab (i:=30) rfl)
theorem S89:GY fs89:=S88
theorem S90:GY fs90:=fun h=>Ywa (S89 h) (Yab (i:=54) rfl)
theorem S91:GY fs91:=fun h=>Ywf (S90 h) (Yab (i:=32) rfl)
theorem S92:GY fs92:=fun h=>Ywh (S91 h) (Yab (i:=10) rfl)
end Go.Abs.G39
