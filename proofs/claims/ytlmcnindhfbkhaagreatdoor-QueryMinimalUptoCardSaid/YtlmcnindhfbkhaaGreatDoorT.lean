/- The functions of this seat's program are those of the texts: each is compared by the kernel. No condition. -/
import Derived.Test.YtlmcnindhfbkhaaGreatDoorG1
import Derived.Test.YtlmcnindhfbkhaaGreatDoorB
import Derived.Test.YtlmcnindhfbkhaaGreatDoorL
import Derived.Test.YtlmcnindhfbkhaaGreatDoorChecked
set_option linter.unusedVariables false
set_option linter.unusedSimpArgs false
set_option linter.unusedSectionVars false
namespace Go.Abs.G47
open Go Go.Abs Go.Proofs
def fmL:List Nat:=[0,0,1075,459,460,461,462,463,464,465,466,467,468,469,470,471,472,473,474,475,476,477,478,479,480,481,482,483,484,485,486,487,488,489,490,491,492,282,493,355,494,308,495,496,346,497,498,499,500,501,502,503,504,505,506,507,508,509,239,510,251,511,272,512,513,514,296,149,151,515,271,516,517,518,274,297,519,520,521,522,523,524,525,526,269,527,528,529,265,258,530,169,531,290,532,533,534,245,351,535,536,537,538,283,256,539,540,541,231,542,275,310,164,543,301,163,544,302,303,545,546,547,548,295,549,550,188,551,230,552,553,554,555,556,173,557,259,260,284,0,311,312,313,314,315,316,317,318,319,186,187,320,1081,200,153,558,255,257,559,560,426,561,434,322,195,196,323,324,325,1082,1083,1084,1085,0,293,294,442,448,327,1090,1091,1092,209,309,212,213,0,0,0,0,0,0,0,0,0,0,0,0,214,0,0,215,216,0,0,0,0,0,0,1098]
def fm:FM:={f:=fmOf fmL,own:=[("value.go:49",6),("value.go:141",12)],dat:=[("ref.go:162",66),("query.go:316",30),("query.go:221",8)],mks:=["query.go:221", "query.go:316"],bt:=120,bu:=5}
theorem mixed:Tryz.prog.follows .mixedOrders=true:=by kernel_rfl
abbrev GY(fs:Lo->List FnE):Prop:= ∀{lo:Lo},LoOK lo->GZ Tryz.prog fm fs lo
theorem S0:GY fs0:=fun h=>⟨h,mixed,YqX Tryz.prog fm pf []⟩
theorem S1:GY fs1:=fun h=>Yr0 (S0 h) (Yaa (i:=46) rfl (by kernel_rfl) (by decide) (by kernel_rfl))
theorem S2:GY fs2:=fun h=>Yr5 (S1 h) (Yaa (i:=45) rfl (by kernel_rfl) (by decide) (by kernel_rfl))
theorem S3:GY fs3:=fun h=>Yr7 (S2 h) (Yaa (i:=47) rfl (by kernel_rfl) (by decide) (by kernel_rfl))
theorem S4:GY fs4:=fun h=>Ysc (S3 h) (Yaa (i:=156) rfl (by kernel_rfl) (by decide) (by kernel_rfl))
theorem S5:GY fs5:=fun h=>Ysh (S4 h) (Yaa (i:=134) rfl (by kernel_rfl) (by decide) (by kernel_rfl))
theorem S6:GY fs6:=fun h=>Ysj (S5 h) (Yaa (i:=104) rfl (by kernel_rfl) (by decide) (by kernel_rfl))
theorem S7:GY fs7:=fun h=>Ysl (S6 h) (Yaa (i:=103) rfl (by kernel_rfl) (by decide) (by kernel_rfl))
theorem S8:GY fs8:=fun h=>Ysn (S7 h) (Yaa (i:=175) rfl (by kernel_rfl) (by decide) (by kernel_rfl))
theorem S9:GY fs9:=fun h=>Yss (S8 h) (Yaa (i:=183) rfl (by kernel_rfl) (by decide) (by kernel_rfl))
theorem S10:GY fs10:=fun h=>Ysu (S9 h) (Yaa (i:=174) rfl (by kernel_rfl) (by decide) (by kernel_rfl))
theorem S11:GY fs11:=fun h=>Ysw (S10 h) (Yaa (i:=157) rfl (by kernel_rfl) (by decide) (by kernel_rfl))
theorem S12:GY fs12:=fun h=>YsD (S11 h) (Yaa (i:=128) rfl (by kernel_rfl) (by decide) (by kernel_rfl))
theorem S13:GY fs13:=fun h=>YsF (S12 h) (Yaa (i:=159) rfl (by kernel_rfl) (by decide) (by kernel_rfl))
theorem S14:GY fs14:=fun h=>YsK (S13 h) (Yaa (i:=158) rfl (by kernel_rfl) (by decide) (by kernel_rfl))
theorem S15:GY fs15:=fun h=>YsM (S14 h) (Yaa (i:=129) rfl (by kernel_rfl) (by decide) (by kernel_rfl))
theorem S16:GY fs16:=fun h=>YsR (S15 h) (Yaa (i:=99) rfl (by kernel_rfl) (by decide) (by kernel_rfl))
theorem S17:GY fs17:=fun h=>YsT (S16 h) (Yaa (i:=161) rfl (by kernel_rfl) (by decide) (by kernel_rfl))
theorem S18:GY fs18:=fun h=>YsY (S17 h) (Yaa (i:=176) rfl (by kernel_rfl) (by decide) (by kernel_rfl))
theorem S19:GY fs19:=fun h=>Ys0 (S18 h) (Yaa (i:=160) rfl (by kernel_rfl) (by decide) (by kernel_rfl))
theorem S20:GY fs20:=fun h=>Ys2 (S19 h) (Yaa (i:=130) rfl (by kernel_rfl) (by decide) (by kernel_rfl))
theorem S21:GY fs21:=fun h=>Ys7 (S20 h) (Yaa (i:=177) rfl (by kernel_rfl) (by decide) (by kernel_rfl))
theorem S22:GY fs22:=fun h=>Ys9 (S21 h) (Yaa (i:=162) rfl (by kernel_rfl) (by decide) (by kernel_rfl))
theorem S23:GY fs23:=fun h=>Yte (S22 h) (Yaa (i:=131) rfl (by kernel_rfl) (by decide) (by kernel_rfl))
theorem S24:GY fs24:=fun h=>Ytg (S23 h) (Yaa (i:=100) rfl (by kernel_rfl) (by decide) (by kernel_rfl))
theorem S25:GY fs25:=fun h=>Yti (S24 h) (Yaa (i:=48) rfl (by kernel_rfl) (by decide) (by kernel_rfl))
theorem S26:GY fs26:=fun h=>Ytn (S25 h) (Yaa (i:=49) rfl (by kernel_rfl) (by decide) (by kernel_rfl))
theorem S27:GY fs27:=fun h=>Ytp (S26 h) (Yaa (i:=132) rfl (by kernel_rfl) (by decide) (by kernel_rfl))
theorem S28:GY fs28:=fun h=>Ytr (S27 h) (Yaa (i:=133) rfl (by kernel_rfl) (by decide) (by kernel_rfl))
theorem S29:GY fs29:=fun h=>Ytw (S28 h) (Yaa (i:=102) rfl (by kernel_rfl) (by decide) (by kernel_rfl))
theorem S30:GY fs30:=fun h=>Yty (S29 h) (Yaa (i:=52) rfl (by kernel_rfl) (by decide) (by kernel_rfl))
theorem S31:GY fs31:=fun h=>YtA (S30 h) (Yaa (i:=51) rfl (by kernel_rfl) (by decide) (by kernel_rfl))
theorem S32:GY fs32:=fun h=>YtF (S31 h) (Yaa (i:=101) rfl (by kernel_rfl) (by decide) (by kernel_rfl))
theorem S33:GY fs33:=fun h=>YtH (S32 h) (Yaa (i:=50) rfl (by kernel_rfl) (by decide) (by kernel_rfl))
theorem S34:GY fs34:=fun h=>YtJ (S33 h) (Yaa (i:=107) rfl (by kernel_rfl) (by decide) (by kernel_rfl))
theorem S35:GY fs35:=fun h=>YtO (S34 h) (Yaa (i:=101) rfl (by kernel_rfl) (by decide) (by kernel_rfl))
theorem S36:GY fs36:=fun h=>YtQ (S35 h) (Yaa (i:=50) rfl (by kernel_rfl) (by decide) (by kernel_rfl))
theorem S37:GY fs37:=fun h=>YtS (S36 h) (Yaa (i:=106) rfl (by kernel_rfl) (by decide) (by kernel_rfl))
theorem S38:GY fs38:=fun h=>YtX (S37 h) (Yaa (i:=135) rfl (by kernel_rfl) (by decide) (by kernel_rfl))
theorem S39:GY fs39:=fun h=>YtZ (S38 h) (Yaa (i:=105) rfl (by kernel_rfl) (by decide) (by kernel_rfl))
theorem S40:GY fs40:=fun h=>Yt4 (S39 h) (Yaa (i:=53) rfl (by kernel_rfl) (by decide) (by kernel_rfl))
theorem S41:GY fs41:=fun h=>Yt9 (S40 h) (Yaa (i:=16) rfl (by kernel_rfl) (by decide) (by kernel_rfl))
theorem S42:GY fs42:=fun h=>Yue (S41 h) (Yaa (i:=63) rfl (by kernel_rfl) (by decide) (by kernel_rfl))
theorem S43:GY fs43:=fun h=>Yuj (S42 h) (Yaa (i:=65) rfl (by kernel_rfl) (by decide) (by kernel_rfl))
theorem S44:GY fs44:=fun h=>Yuo (S43 h) (Yaa (i:=111) rfl (by kernel_rfl) (by decide) (by kernel_rfl))
theorem S45:GY fs45:=fun h=>Yuv (S44 h) (Yaa (i:=66) rfl (by kernel_rfl) (by decide) (by kernel_rfl))
theorem YCg{g i f:Nat}(h:YBg g fmL i 0=true)(hg:g≠0)(hf:fm f=g):f=i:=YjZ h hg hf
theorem YDJ:BldOK Tryz.prog fm Tryz.lays156_ren:=⟨Tryz.bextra,by kernel_rfl⟩
theorem YDR: ∀f,fm f=164->YzW Tryz.prog f=true/\ ∃ρ:Go.Shelf.Ren,Go.Proofs.Lays.n240 Tryz.prog ρ/\BldOK Tryz.prog fm ρ/\ρ.f 240=f:=fun f h=>by
  have:=YCg (i:=112) (by kernel_rfl) (by decide) h;subst this
  exact⟨by kernel_rfl,_,Tryz.lays240',YDJ,by kernel_rfl⟩
theorem S46:GY fs46:=fun h=>Yux (S45 h) (YDR)
theorem S47:GY fs47:=fun h=>Yuz (S46 h) (Yaa (i:=67) rfl (by kernel_rfl) (by decide) (by kernel_rfl))
theorem YDS: ∀f,fm f=151->YzW Tryz.prog f=true/\ ∃ρ:Go.Shelf.Ren,Go.Proofs.Lays.n169 Tryz.prog ρ/\BldOK Tryz.prog fm ρ/\fm.bu=ρ.t 5/\ρ.f 169=f:=fun f h=>by
  have:=YCg (i:=68) (by kernel_rfl) (by decide) h;subst this
  exact⟨by kernel_rfl,_,Tryz.lays169',YDJ,by kernel_rfl,by kernel_rfl⟩
theorem S48:GY fs48:=fun h=>YuB (S47 h) (YDS)
theorem S49:GY fs49:=fun h=>YuG (S48 h) (Yaa (i:=64) rfl (by kernel_rfl) (by decide) (by kernel_rfl))
theorem S50:GY fs50:=fun h=>YuN (S49 h) (Yaa (i:=113) rfl (by kernel_rfl) (by decide) (by kernel_rfl))
theorem S51:GY fs51:=fun h=>YuU (S50 h) (Yaa (i:=69) rfl (by kernel_rfl) (by decide) (by kernel_rfl))
theorem S52:GY fs52:=fun h=>YuZ (S51 h) (Yaa (i:=150) rfl (by kernel_rfl) (by decide) (by kernel_rfl))
theorem S53:GY fs53:=fun h=>Yu1 (S52 h) (Yaa (i:=115) rfl (by kernel_rfl) (by decide) (by kernel_rfl))
theorem S54:GY fs54:=fun h=>Yu3 (S53 h) (Yaa (i:=168) rfl (by kernel_rfl) (by decide) (by kernel_rfl))
theorem S55:GY fs55:=fun h=>Yu5 (S54 h) (Yaa (i:=146) rfl (by kernel_rfl) (by decide) (by kernel_rfl))
theorem S56:GY fs56:=fun h=>Yvc (S55 h) (Yaa (i:=140) rfl (by kernel_rfl) (by decide) (by kernel_rfl))
theorem S57:GY fs57:=fun h=>Yvd (S56 h) trivial
theorem S58:GY fs58:=fun h=>Yve (S57 h) trivial
theorem S59:GY fs59:=fun h=>Yvf (S58 h) trivial
theorem S60:GY fs60:=fun h=>Yvg (S59 h) trivial
theorem S61:GY fs61:=fun h=>Yvh (S60 h) trivial
theorem S62:GY fs62:=fun h=>Yvi (S61 h) trivial
theorem S63:GY fs63:=fun h=>Yvj (S62 h) trivial
theorem S64:GY fs64:=fun h=>Yvu (S63 h) (Yaa (i:=114) rfl (by kernel_rfl) (by decide) (by kernel_rfl))
theorem S65:GY fs65:=fun h=>Yvw (S64 h) (Yaa (i:=70) rfl (by kernel_rfl) (by decide) (by kernel_rfl))
theorem YDT: ∀f,fm f=271->YzW Tryz.prog f=true/\ ∃ρ:Go.Shelf.Ren,Go.Proofs.Lays.n190 Tryz.prog ρ/\ρ.f 190=f:=fun f h=>by
  have:=YCg (i:=70) (by kernel_rfl) (by decide) h;subst this
  exact⟨by kernel_rfl,_,Tryz.lays190,by kernel_rfl⟩
theorem S66:GY fs66:=fun h=>Yvy (S65 h) (YDT)
theorem S67:GY fs67:=fun h=>YvF (S66 h) (Yaa (i:=20) rfl (by kernel_rfl) (by decide) (by kernel_rfl))
theorem S68:GY fs68:=fun h=>YvK (S67 h) (Yaa (i:=94) rfl (by kernel_rfl) (by decide) (by kernel_rfl))
theorem S69:GY fs69:=fun h=>YvP (S68 h) (Yaa (i:=94) rfl (by kernel_rfl) (by decide) (by kernel_rfl))
theorem S70:GY fs70:=fun h=>YvR (S69 h) (Yaa (i:=97) rfl (by kernel_rfl) (by decide) (by kernel_rfl))
theorem S71:GY fs71:=fun h=>YvT (S70 h) (Yaa (i:=96) rfl (by kernel_rfl) (by decide) (by kernel_rfl))
theorem S72:GY fs72:=fun h=>Yv0 (S71 h) (Yaa (i:=113) rfl (by kernel_rfl) (by decide) (by kernel_rfl))
theorem S73:GY fs73:=fun h=>Yv7 (S72 h) (Yaa (i:=69) rfl (by kernel_rfl) (by decide) (by kernel_rfl))
theorem S74:GY fs74:=fun h=>Yv9 (S73 h) (Yaa (i:=42) rfl (by kernel_rfl) (by decide) (by kernel_rfl))
theorem S75:GY fs75:=fun h=>Ywb (S74 h) (Yaa (i:=119) rfl (by kernel_rfl) (by decide) (by kernel_rfl))
theorem S76:GY fs76:=fun h=>Ywg (S75 h) (Yaa (i:=101) rfl (by kernel_rfl) (by decide) (by kernel_rfl))
theorem S77:GY fs77:=fun h=>Ywi (S76 h) (Yaa (i:=50) rfl (by kernel_rfl) (by decide) (by kernel_rfl))
theorem S78:GY fs78:=fun h=>Ywn (S77 h) (Yaa (i:=76) rfl (by kernel_rfl) (by decide) (by kernel_rfl))
theorem S79:GY fs79:=fun h=>Ywp (S78 h) (Yaa (i:=84) rfl (by kernel_rfl) (by decide) (by kernel_rfl))
theorem S80:GY fs80:=fun h=>Ywr (S79 h) (Yaa (i:=85) rfl (by kernel_rfl) (by decide) (by kernel_rfl))
theorem YDU: ∀f,fm f=548->YzW Tryz.prog f=true/\ ∃ρ:Go.Shelf.Ren,Go.Proofs.Lays8.n4 Tryz.prog ρ/\ρ.f 4=f/\YA9 Tryz.prog (ρ.t 25) 2=true:=fun f h=>by
  have:=YCg (i:=122) (by kernel_rfl) (by decide) h;subst this
  exact⟨by kernel_rfl,_,Tryz.lays8_4,by kernel_rfl,by kernel_rfl⟩
theorem S81:GY fs81:=fun h=>Ywt (S80 h) (YDU)
theorem S82:GY fs82:=fun h=>YwA (S81 h) (Yaa (i:=86) rfl (by kernel_rfl) (by decide) (by kernel_rfl))
theorem S83:GY fs83:=fun h=>YwH (S82 h) (Yaa (i:=120) rfl (by kernel_rfl) (by decide) (by kernel_rfl))
theorem S84:GY fs84:=fun h=>YwN (S83 h) (Yaa (i:=77) rfl (by kernel_rfl) (by decide) (by kernel_rfl))
theorem S85:GY fs85:=fun h=>YwU (S84 h) (Yaa (i:=78) rfl (by kernel_rfl) (by decide) (by kernel_rfl))
theorem S86:GY fs86:=fun h=>Yw1 (S85 h) (Yaa (i:=23) rfl (by kernel_rfl) (by decide) (by kernel_rfl))
theorem S87:GY fs87:=fun h=>Yw3 (S86 h) (Yaa (i:=26) rfl (by kernel_rfl) (by decide) (by kernel_rfl))
theorem S88:GY fs88:=fun h=>Yxa (S87 h) (Yaa (i:=28) rfl (by kernel_rfl) (by decide) (by kernel_rfl))
theorem S89:GY fs89:=fun h=>Yxc (S88 h) (Yaa (i:=169) rfl (by kernel_rfl) (by decide) (by kernel_rfl))
theorem S90:GY fs90:=S89
theorem S91:GY fs91:=S90
theorem S92:GY fs92:=fun h=>Yxe (S91 h) (Yaa (i:=152) rfl (by kernel_rfl) (by decide) (by kernel_rfl))
theorem S93:GY fs93:=fun h=>Yxg (S92 h) (Yaa (i:=124) rfl (by kernel_rfl) (by decide) (by kernel_rfl))
theorem S94:GY fs94:=fun h=>Yxl (S93 h) (Yaa (i:=125) rfl (by kernel_rfl) (by decide) (by kernel_rfl))
theorem S95:GY fs95:=fun h=>Yxn (S94 h) (Yaa (i:=90) rfl (by kernel_rfl) (by decide) (by kernel_rfl))
theorem YDV: ∀f,fm f=169->YzW Tryz.prog f=true/\ ∃ρ:Go.Shelf.Ren,Go.Proofs.Lays.n156 Tryz.prog ρ/\Go.Proofs.Builder.Extra Tryz.prog ρ/\ρ.f 156=f:=fun f h=>by
  have:=YCg (i:=91) (by kernel_rfl) (by decide) h;subst this
  exact⟨by kernel_rfl,_,Tryz.lays156,Tryz.bextra,by kernel_rfl⟩
theorem S96:GY fs96:=fun h=>Yxp (S95 h) (YDV)
theorem S97:GY fs97:=fun h=>Yxw (S96 h) (Yaa (i:=33) rfl (by kernel_rfl) (by decide) (by kernel_rfl))
theorem S98:GY fs98:=fun h=>YxB (S97 h) (Yaa (i:=98) rfl (by kernel_rfl) (by decide) (by kernel_rfl))
theorem S99:GY fs99:=fun h=>YxG (S98 h) (Yaa (i:=44) rfl (by kernel_rfl) (by decide) (by kernel_rfl))
theorem S100:GY YC0:=fun h=>YxI (S99 h) (Yaa (i:=13) rfl (by kernel_rfl) (by decide) (by kernel_rfl))
theorem S101:GY YCs:=S100
theorem S102:GY YCt:=fun h=>YxN (S101 h) (Yaa (i:=15) rfl (by kernel_rfl) (by decide) (by kernel_rfl))
theorem S103:GY YB6:=fun h=>YxP (S102 h) (Yaa (i:=123) rfl (by kernel_rfl) (by decide) (by kernel_rfl))
theorem S104:GY YB7:=fun h=>YxU (S103 h) (Yaa (i:=89) rfl (by kernel_rfl) (by decide) (by kernel_rfl))
theorem S105:GY YC1:=fun h=>YxZ (S104 h) (Yaa (i:=62) rfl (by kernel_rfl) (by decide) (by kernel_rfl))
theorem S106:GY YC2:=S105
theorem S107:GY YC3:=fun h=>Yx1 (S106 h) (Yaa (i:=138) rfl (by kernel_rfl) (by decide) (by kernel_rfl))
theorem S108:GY YDm:=S107
theorem S109:GY YDn:=S108
theorem S110:GY YDo:=S109
theorem S111:GY YC4:=S110
theorem S112:GY YB8:=fun h=>Yx3 (S111 h) (Yaa (i:=109) rfl (by kernel_rfl) (by decide) (by kernel_rfl))
theorem S113:GY YBL:=fun h=>Yx8 (S112 h) (Yaa (i:=56) rfl (by kernel_rfl) (by decide) (by kernel_rfl))
theorem S114:GY YB9:=fun h=>Yyf (S113 h) (Yaa (i:=61) rfl (by kernel_rfl) (by decide) (by kernel_rfl))
theorem S115:GY YC5:=fun h=>Yyk (S114 h) (Yaa (i:=57) rfl (by kernel_rfl) (by decide) (by kernel_rfl))
theorem S116:GY YDp:=S115
theorem S117:GY YDq:=S116
theorem S118:GY YDr:=S117
theorem S119:GY YDs:=S118
theorem S120:GY YDt:=S119
theorem S121:GY YDu:=S120
theorem S122:GY YDv:=S121
theorem S123:GY YDw:=S122
theorem S124:GY YC6:=S123
theorem S125:GY YCa:=fun h=>Yym (S124 h) (Yaa (i:=118) rfl (by kernel_rfl) (by decide) (by kernel_rfl))
theorem S126:GY YCu:=fun h=>Yyr (S125 h) (Yaa (i:=151) rfl (by kernel_rfl) (by decide) (by kernel_rfl))
theorem S127:GY YCv:=fun h=>Yyt (S126 h) (Yaa (i:=117) rfl (by kernel_rfl) (by decide) (by kernel_rfl))
theorem S128:GY YCw:=fun h=>Yyv (S127 h) (Yaa (i:=81) rfl (by kernel_rfl) (by decide) (by kernel_rfl))
theorem S129:GY YCb:=fun h=>Yyx (S128 h) (Yaa (i:=121) rfl (by kernel_rfl) (by decide) (by kernel_rfl))
theorem S130:GY YC7:=fun h=>YyC (S129 h) (Yaa (i:=83) rfl (by kernel_rfl) (by decide) (by kernel_rfl))
theorem S131:GY YDx:=S130
theorem S132:GY YDy:=S131
theorem S133:GY YDz:=S132
theorem S134:GY YDA:=S133
theorem S135:GY YDB:=S134
theorem S136:GY YDC:=S135
theorem S137:GY YDD:=S136
theorem S138:GY YDE:=S137
theorem S139:GY YCx:=S138
theorem S140:GY YCc:=fun h=>YyH (S139 h) (Yaa (i:=32) rfl (by kernel_rfl) (by decide) (by kernel_rfl))
theorem S141:GY YCd:=fun h=>YyM (S140 h) (Yaa (i:=79) rfl (by kernel_rfl) (by decide) (by kernel_rfl))
theorem S142:GY YCy:=fun h=>YyQ (S141 h) (Yaa (i:=80) rfl (by kernel_rfl) (by decide) (by kernel_rfl))
theorem S143:GY YC8:=fun h=>YyS (S142 h) (Yaa (i:=24) rfl (by kernel_rfl) (by decide) (by kernel_rfl))
theorem S144:GY YDF:=S143
theorem S145:GY YDG:=S144
theorem S146:GY YDH:=S145
theorem S147:GY YC9:=S146
theorem S148:GY YCe:=fun h=>YyU (S147 h) (Yaa (i:=87) rfl (by kernel_rfl) (by decide) (by kernel_rfl))
theorem S149:GY YCf:=fun h=>YyZ (S148 h) (Yaa (i:=29) rfl (by kernel_rfl) (by decide) (by kernel_rfl))
theorem S150:GY YBM:=fun h=>Yy4 (S149 h) (Yaa (i:=88) rfl (by kernel_rfl) (by decide) (by kernel_rfl))
theorem S151:GY YCz:=fun h=>Yzb (S150 h) (Yaa (i:=30) rfl (by kernel_rfl) (by decide) (by kernel_rfl))
theorem S152:GY YDI:=fun h=>Yzd (S151 h) (Yaa (i:=7) rfl (by kernel_rfl) (by decide) (by kernel_rfl))
end Go.Abs.G47
