/- The functions of this seat's program are those of the texts: each is compared by the kernel. No condition. -/
import Derived.Test.YtlmcnindhfbkhaaGreatDoorG1
import Derived.Test.YtlmcnindhfbkhaaGreatDoorB
import Derived.Test.YtlmcnindhfbkhaaGreatDoorL
import Derived.Test.YtlmcnindhfbkhaaGreatDoorChecked
set_option linter.unusedVariables false
set_option linter.unusedSimpArgs false
set_option linter.unusedSectionVars false
namespace Go.Abs.G47
open Go Go.Abs Go.Proofs
def fmL:List Nat:=[0,0,1075,459,460,461,462,463,464,465,466,467,468,469,470,471,472,473,474,475,476,477,478,479,480,481,482,483,484,485,486,487,488,489,490,491,492,282,493,355,494,308,495,496,346,497,498,499,500,501,502,503,504,505,506,507,508,509,239,510,251,511,272,512,513,514,296,149,151,515,271,516,517,518,274,297,519,520,521,522,523,524,525,526,269,527,528,529,265,258,530,169,531,290,532,533,534,245,351,535,536,537,538,283,256,539,540,541,231,542,275,310,164,543,301,163,544,302,303,545,546,547,548,295,549,550,188,551,230,552,553,554,555,556,173,557,259,260,284,0,311,312,313,314,315,316,317,318,319,186,187,320,1081,200,153,558,255,257,559,560,426,561,434,322,195,196,323,324,325,1082,1083,1084,1085,0,293,294,442,448,327,1090,1091,1092,209,309,212,213,0,0,0,0,0,0,0,0,0,0,0,0,214,0,0,215,216,0,0,0,0,0,0,1098]
def fm:FM:={f:=fmOf fmL,own:=[("value.go:49",6),("value.go:141",12)],dat:=[("law.go:202",110),("ref.go:162",66),("query.go:316",30),("query.go:221",8)],mks:=["query.go:221", "query.go:316", "law.go:202"],bt:=120,bu:=5}
theorem mixed:Tryz.prog.follows .mixedOrders=true:=by kernel_rfl
abbrev GY(fs:Lo->List FnE):Prop:= ∀{lo:Lo},LoOK lo->GZ Tryz.prog fm fs lo
theorem S0:GY fs0:=fun h=>⟨h,mixed,Yr2 Tryz.prog fm pf []⟩
theorem S1:GY fs1:=fun h=>Ys6 (S0 h) (Yaa (i:=46) rfl (by kernel_rfl) (by decide) (by kernel_rfl))
theorem S2:GY fs2:=fun h=>Ytb (S1 h) (Yaa (i:=45) rfl (by kernel_rfl) (by decide) (by kernel_rfl))
theorem S3:GY fs3:=fun h=>Ytd (S2 h) (Yaa (i:=47) rfl (by kernel_rfl) (by decide) (by kernel_rfl))
theorem S4:GY fs4:=fun h=>Yti (S3 h) (Yaa (i:=156) rfl (by kernel_rfl) (by decide) (by kernel_rfl))
theorem S5:GY fs5:=fun h=>Ytn (S4 h) (Yaa (i:=134) rfl (by kernel_rfl) (by decide) (by kernel_rfl))
theorem S6:GY fs6:=fun h=>Ytp (S5 h) (Yaa (i:=104) rfl (by kernel_rfl) (by decide) (by kernel_rfl))
theorem S7:GY fs7:=fun h=>Ytr (S6 h) (Yaa (i:=103) rfl (by kernel_rfl) (by decide) (by kernel_rfl))
theorem S8:GY fs8:=fun h=>Ytt (S7 h) (Yaa (i:=175) rfl (by kernel_rfl) (by decide) (by kernel_rfl))
theorem S9:GY fs9:=fun h=>Yty (S8 h) (Yaa (i:=183) rfl (by kernel_rfl) (by decide) (by kernel_rfl))
theorem S10:GY fs10:=fun h=>YtA (S9 h) (Yaa (i:=174) rfl (by kernel_rfl) (by decide) (by kernel_rfl))
theorem S11:GY fs11:=fun h=>YtC (S10 h) (Yaa (i:=157) rfl (by kernel_rfl) (by decide) (by kernel_rfl))
theorem S12:GY fs12:=fun h=>YtJ (S11 h) (Yaa (i:=128) rfl (by kernel_rfl) (by decide) (by kernel_rfl))
theorem S13:GY fs13:=fun h=>YtL (S12 h) (Yaa (i:=159) rfl (by kernel_rfl) (by decide) (by kernel_rfl))
theorem S14:GY fs14:=fun h=>YtQ (S13 h) (Yaa (i:=158) rfl (by kernel_rfl) (by decide) (by kernel_rfl))
theorem S15:GY fs15:=fun h=>YtS (S14 h) (Yaa (i:=129) rfl (by kernel_rfl) (by decide) (by kernel_rfl))
theorem S16:GY fs16:=fun h=>YtX (S15 h) (Yaa (i:=99) rfl (by kernel_rfl) (by decide) (by kernel_rfl))
theorem S17:GY fs17:=fun h=>YtZ (S16 h) (Yaa (i:=161) rfl (by kernel_rfl) (by decide) (by kernel_rfl))
theorem S18:GY fs18:=fun h=>Yt4 (S17 h) (Yaa (i:=176) rfl (by kernel_rfl) (by decide) (by kernel_rfl))
theorem S19:GY fs19:=fun h=>Yt6 (S18 h) (Yaa (i:=160) rfl (by kernel_rfl) (by decide) (by kernel_rfl))
theorem S20:GY fs20:=fun h=>Yt8 (S19 h) (Yaa (i:=130) rfl (by kernel_rfl) (by decide) (by kernel_rfl))
theorem S21:GY fs21:=fun h=>Yud (S20 h) (Yaa (i:=177) rfl (by kernel_rfl) (by decide) (by kernel_rfl))
theorem S22:GY fs22:=fun h=>Yuf (S21 h) (Yaa (i:=162) rfl (by kernel_rfl) (by decide) (by kernel_rfl))
theorem S23:GY fs23:=fun h=>Yuk (S22 h) (Yaa (i:=131) rfl (by kernel_rfl) (by decide) (by kernel_rfl))
theorem S24:GY fs24:=fun h=>Yum (S23 h) (Yaa (i:=100) rfl (by kernel_rfl) (by decide) (by kernel_rfl))
theorem S25:GY fs25:=fun h=>Yuo (S24 h) (Yaa (i:=48) rfl (by kernel_rfl) (by decide) (by kernel_rfl))
theorem S26:GY fs26:=fun h=>Yut (S25 h) (Yaa (i:=49) rfl (by kernel_rfl) (by decide) (by kernel_rfl))
theorem S27:GY fs27:=fun h=>Yuv (S26 h) (Yaa (i:=132) rfl (by kernel_rfl) (by decide) (by kernel_rfl))
theorem S28:GY fs28:=fun h=>Yux (S27 h) (Yaa (i:=133) rfl (by kernel_rfl) (by decide) (by kernel_rfl))
theorem S29:GY fs29:=fun h=>YuC (S28 h) (Yaa (i:=102) rfl (by kernel_rfl) (by decide) (by kernel_rfl))
theorem S30:GY fs30:=fun h=>YuE (S29 h) (Yaa (i:=52) rfl (by kernel_rfl) (by decide) (by kernel_rfl))
theorem S31:GY fs31:=fun h=>YuG (S30 h) (Yaa (i:=51) rfl (by kernel_rfl) (by decide) (by kernel_rfl))
theorem S32:GY fs32:=fun h=>YuL (S31 h) (Yaa (i:=101) rfl (by kernel_rfl) (by decide) (by kernel_rfl))
theorem S33:GY fs33:=fun h=>YuN (S32 h) (Yaa (i:=50) rfl (by kernel_rfl) (by decide) (by kernel_rfl))
theorem S34:GY fs34:=fun h=>YuP (S33 h) (Yaa (i:=107) rfl (by kernel_rfl) (by decide) (by kernel_rfl))
theorem S35:GY fs35:=fun h=>YuU (S34 h) (Yaa (i:=101) rfl (by kernel_rfl) (by decide) (by kernel_rfl))
theorem S36:GY fs36:=fun h=>YuW (S35 h) (Yaa (i:=50) rfl (by kernel_rfl) (by decide) (by kernel_rfl))
theorem S37:GY fs37:=fun h=>YuY (S36 h) (Yaa (i:=106) rfl (by kernel_rfl) (by decide) (by kernel_rfl))
theorem S38:GY fs38:=fun h=>Yu3 (S37 h) (Yaa (i:=135) rfl (by kernel_rfl) (by decide) (by kernel_rfl))
theorem S39:GY fs39:=fun h=>Yu5 (S38 h) (Yaa (i:=105) rfl (by kernel_rfl) (by decide) (by kernel_rfl))
theorem S40:GY fs40:=fun h=>Yva (S39 h) (Yaa (i:=53) rfl (by kernel_rfl) (by decide) (by kernel_rfl))
theorem S41:GY fs41:=fun h=>Yvf (S40 h) (Yaa (i:=16) rfl (by kernel_rfl) (by decide) (by kernel_rfl))
theorem S42:GY fs42:=fun h=>Yvk (S41 h) (Yaa (i:=63) rfl (by kernel_rfl) (by decide) (by kernel_rfl))
theorem S43:GY fs43:=fun h=>Yvp (S42 h) (Yaa (i:=65) rfl (by kernel_rfl) (by decide) (by kernel_rfl))
theorem S44:GY fs44:=fun h=>Yvu (S43 h) (Yaa (i:=111) rfl (by kernel_rfl) (by decide) (by kernel_rfl))
theorem S45:GY fs45:=fun h=>YvB (S44 h) (Yaa (i:=66) rfl (by kernel_rfl) (by decide) (by kernel_rfl))
theorem YDR{g i f:Nat}(h:YCS g fmL i 0=true)(hg:g≠0)(hf:fm f=g):f=i:=YkA h hg hf
theorem YFG:BldOK Tryz.prog fm Tryz.lays156_ren:=⟨Tryz.bextra,by kernel_rfl⟩
theorem YFT: ∀f,fm f=164->YBA Tryz.prog f=true/\ ∃ρ:Go.Shelf.Ren,Go.Proofs.Lays.n240 Tryz.prog ρ/\BldOK Tryz.prog fm ρ/\ρ.f 240=f:=fun f h=>by
  have:=YDR (i:=112) (by kernel_rfl) (by decide) h;subst this
  exact⟨by kernel_rfl,_,Tryz.lays240',YFG,by kernel_rfl⟩
theorem S46:GY fs46:=fun h=>YvD (S45 h) (YFT)
theorem S47:GY fs47:=fun h=>YvF (S46 h) (Yaa (i:=67) rfl (by kernel_rfl) (by decide) (by kernel_rfl))
theorem YFU: ∀f,fm f=151->YBA Tryz.prog f=true/\ ∃ρ:Go.Shelf.Ren,Go.Proofs.Lays.n169 Tryz.prog ρ/\BldOK Tryz.prog fm ρ/\fm.bu=ρ.t 5/\ρ.f 169=f:=fun f h=>by
  have:=YDR (i:=68) (by kernel_rfl) (by decide) h;subst this
  exact⟨by kernel_rfl,_,Tryz.lays169',YFG,by kernel_rfl,by kernel_rfl⟩
theorem S48:GY fs48:=fun h=>YvH (S47 h) (YFU)
theorem S49:GY fs49:=fun h=>YvM (S48 h) (Yaa (i:=64) rfl (by kernel_rfl) (by decide) (by kernel_rfl))
theorem S50:GY fs50:=fun h=>YvT (S49 h) (Yaa (i:=113) rfl (by kernel_rfl) (by decide) (by kernel_rfl))
theorem S51:GY fs51:=fun h=>YvZ (S50 h) (Yaa (i:=69) rfl (by kernel_rfl) (by decide) (by kernel_rfl))
theorem S52:GY fs52:=fun h=>Yv4 (S51 h) (Yaa (i:=150) rfl (by kernel_rfl) (by decide) (by kernel_rfl))
theorem S53:GY fs53:=fun h=>Yv6 (S52 h) (Yaa (i:=115) rfl (by kernel_rfl) (by decide) (by kernel_rfl))
theorem S54:GY fs54:=fun h=>Yv8 (S53 h) (Yaa (i:=168) rfl (by kernel_rfl) (by decide) (by kernel_rfl))
theorem S55:GY fs55:=fun h=>Ywa (S54 h) (Yaa (i:=146) rfl (by kernel_rfl) (by decide) (by kernel_rfl))
theorem S56:GY fs56:=fun h=>Ywh (S55 h) (Yaa (i:=140) rfl (by kernel_rfl) (by decide) (by kernel_rfl))
theorem S57:GY fs57:=fun h=>Ywi (S56 h) trivial
theorem S58:GY fs58:=fun h=>Ywj (S57 h) trivial
theorem S59:GY fs59:=fun h=>Ywk (S58 h) trivial
theorem S60:GY fs60:=fun h=>Ywl (S59 h) trivial
theorem S61:GY fs61:=fun h=>Ywm (S60 h) trivial
theorem S62:GY fs62:=fun h=>Ywn (S61 h) trivial
theorem S63:GY fs63:=fun h=>Ywo (S62 h) trivial
theorem S64:GY fs64:=fun h=>Ywz (S63 h) (Yaa (i:=114) rfl (by kernel_rfl) (by decide) (by kernel_rfl))
theorem S65:GY fs65:=fun h=>YwB (S64 h) (Yaa (i:=70) rfl (by kernel_rfl) (by decide) (by kernel_rfl))
theorem YFV: ∀f,fm f=271->YBA Tryz.prog f=true/\ ∃ρ:Go.Shelf.Ren,Go.Proofs.Lays.n190 Tryz.prog ρ/\ρ.f 190=f:=fun f h=>by
  have:=YDR (i:=70) (by kernel_rfl) (by decide) h;subst this
  exact⟨by kernel_rfl,_,Tryz.lays190,by kernel_rfl⟩
theorem S66:GY fs66:=fun h=>YwD (S65 h) (YFV)
theorem S67:GY fs67:=fun h=>YwK (S66 h) (Yaa (i:=20) rfl (by kernel_rfl) (by decide) (by kernel_rfl))
theorem S68:GY fs68:=fun h=>YwP (S67 h) (Yaa (i:=94) rfl (by kernel_rfl) (by decide) (by kernel_rfl))
theorem S69:GY fs69:=fun h=>YwU (S68 h) (Yaa (i:=94) rfl (by kernel_rfl) (by decide) (by kernel_rfl))
theorem S70:GY fs70:=fun h=>YwW (S69 h) (Yaa (i:=97) rfl (by kernel_rfl) (by decide) (by kernel_rfl))
theorem S71:GY fs71:=fun h=>YwY (S70 h) (Yaa (i:=96) rfl (by kernel_rfl) (by decide) (by kernel_rfl))
theorem S72:GY fs72:=fun h=>Yw5 (S71 h) (Yaa (i:=113) rfl (by kernel_rfl) (by decide) (by kernel_rfl))
theorem S73:GY fs73:=fun h=>Yxc (S72 h) (Yaa (i:=69) rfl (by kernel_rfl) (by decide) (by kernel_rfl))
theorem S74:GY fs74:=fun h=>Yxe (S73 h) (Yaa (i:=42) rfl (by kernel_rfl) (by decide) (by kernel_rfl))
theorem S75:GY fs75:=fun h=>Yxg (S74 h) (Yaa (i:=119) rfl (by kernel_rfl) (by decide) (by kernel_rfl))
theorem S76:GY fs76:=fun h=>Yxl (S75 h) (Yaa (i:=101) rfl (by kernel_rfl) (by decide) (by kernel_rfl))
theorem S77:GY fs77:=fun h=>Yxn (S76 h) (Yaa (i:=50) rfl (by kernel_rfl) (by decide) (by kernel_rfl))
theorem S78:GY fs78:=fun h=>Yxs (S77 h) (Yaa (i:=76) rfl (by kernel_rfl) (by decide) (by kernel_rfl))
theorem S79:GY fs79:=fun h=>Yxu (S78 h) (Yaa (i:=84) rfl (by kernel_rfl) (by decide) (by kernel_rfl))
theorem S80:GY fs80:=fun h=>Yxw (S79 h) (Yaa (i:=85) rfl (by kernel_rfl) (by decide) (by kernel_rfl))
theorem YFW: ∀f,fm f=548->YBA Tryz.prog f=true/\ ∃ρ:Go.Shelf.Ren,Go.Proofs.Lays8.n4 Tryz.prog ρ/\ρ.f 4=f/\YCH Tryz.prog (ρ.t 25) 2=true:=fun f h=>by
  have:=YDR (i:=122) (by kernel_rfl) (by decide) h;subst this
  exact⟨by kernel_rfl,_,Tryz.lays8_4,by kernel_rfl,by kernel_rfl⟩
theorem S81:GY fs81:=fun h=>Yxy (S80 h) (YFW)
theorem S82:GY fs82:=fun h=>YxF (S81 h) (Yaa (i:=86) rfl (by kernel_rfl) (by decide) (by kernel_rfl))
theorem S83:GY fs83:=fun h=>YxM (S82 h) (Yaa (i:=120) rfl (by kernel_rfl) (by decide) (by kernel_rfl))
theorem S84:GY fs84:=fun h=>YxT (S83 h) (Yaa (i:=77) rfl (by kernel_rfl) (by decide) (by kernel_rfl))
theorem S85:GY fs85:=fun h=>Yx0 (S84 h) (Yaa (i:=78) rfl (by kernel_rfl) (by decide) (by kernel_rfl))
theorem S86:GY fs86:=fun h=>Yx7 (S85 h) (Yaa (i:=23) rfl (by kernel_rfl) (by decide) (by kernel_rfl))
theorem S87:GY fs87:=fun h=>Yx9 (S86 h) (Yaa (i:=26) rfl (by kernel_rfl) (by decide) (by kernel_rfl))
theorem S88:GY fs88:=fun h=>Yyg (S87 h) (Yaa (i:=28) rfl (by kernel_rfl) (by decide) (by kernel_rfl))
theorem S89:GY fs89:=fun h=>Yyi (S88 h) (Yaa (i:=169) rfl (by kernel_rfl) (by decide) (by kernel_rfl))
theorem S90:GY fs90:=S89
theorem S91:GY fs91:=S90
theorem S92:GY fs92:=fun h=>Yyk (S91 h) (Yaa (i:=152) rfl (by kernel_rfl) (by decide) (by kernel_rfl))
theorem S93:GY fs93:=fun h=>Yym (S92 h) (Yaa (i:=124) rfl (by kernel_rfl) (by decide) (by kernel_rfl))
theorem S94:GY fs94:=fun h=>Yyr (S93 h) (Yaa (i:=125) rfl (by kernel_rfl) (by decide) (by kernel_rfl))
theorem S95:GY fs95:=fun h=>Yyt (S94 h) (Yaa (i:=90) rfl (by kernel_rfl) (by decide) (by kernel_rfl))
theorem YFX: ∀f,fm f=169->YBA Tryz.prog f=true/\ ∃ρ:Go.Shelf.Ren,Go.Proofs.Lays.n156 Tryz.prog ρ/\Go.Proofs.Builder.Extra Tryz.prog ρ/\ρ.f 156=f:=fun f h=>by
  have:=YDR (i:=91) (by kernel_rfl) (by decide) h;subst this
  exact⟨by kernel_rfl,_,Tryz.lays156,Tryz.bextra,by kernel_rfl⟩
theorem S96:GY fs96:=fun h=>Yyv (S95 h) (YFX)
theorem S97:GY fs97:=fun h=>YyC (S96 h) (Yaa (i:=33) rfl (by kernel_rfl) (by decide) (by kernel_rfl))
theorem S98:GY fs98:=fun h=>YyH (S97 h) (Yaa (i:=98) rfl (by kernel_rfl) (by decide) (by kernel_rfl))
theorem S99:GY fs99:=fun h=>YyM (S98 h) (Yaa (i:=44) rfl (by kernel_rfl) (by decide) (by kernel_rfl))
theorem S100:GY YEI:=fun h=>YyO (S99 h) (Yaa (i:=13) rfl (by kernel_rfl) (by decide) (by kernel_rfl))
theorem S101:GY YE7:=S100
theorem S102:GY YE8:=S101
theorem S103:GY YE9:=S102
theorem S104:GY YD6:=S103
theorem S105:GY YEJ:=fun h=>YyT (S104 h) (Yaa (i:=62) rfl (by kernel_rfl) (by decide) (by kernel_rfl))
theorem S106:GY YFa:=S105
theorem S107:GY YFb:=S106
theorem S108:GY YFc:=S107
theorem S109:GY YFd:=S108
theorem S110:GY YFe:=S109
theorem S111:GY YFf:=S110
theorem S112:GY YFg:=S111
theorem S113:GY YDL:=S112
theorem S114:GY YEK:=fun h=>Yy0 (S113 h) (Yaa (i:=61) rfl (by kernel_rfl) (by decide) (by kernel_rfl))
theorem S115:GY YFh:=S114
theorem S116:GY YFi:=S115
theorem S117:GY YEL:=S116
theorem S118:GY YDu:=fun h=>Yy2 (S117 h) (Yaa (i:=60) rfl (by kernel_rfl) (by decide) (by kernel_rfl))
theorem S119:GY YD7:=fun h=>Yy9 (S118 h) (Yaa (i:=110) rfl (by kernel_rfl) (by decide) (by kernel_rfl))
theorem S120:GY YDM:=fun h=>Yzb (S119 h) (Yaa (i:=58) rfl (by kernel_rfl) (by decide) (by kernel_rfl))
theorem S121:GY YD8:=fun h=>Yzg (S120 h) (Yaa (i:=18) rfl (by kernel_rfl) (by decide) (by kernel_rfl))
theorem S122:GY YDb:=fun h=>Yzi (S121 h) (Yaa (i:=59) rfl (by kernel_rfl) (by decide) (by kernel_rfl))
theorem S123:GY YEM:=fun h=>Yzt (S122 h) (Yaa (i:=19) rfl (by kernel_rfl) (by decide) (by kernel_rfl))
theorem S124:GY YEN:=S123
theorem S125:GY YDN:=fun h=>Yzv (S124 h) (Yaa (i:=118) rfl (by kernel_rfl) (by decide) (by kernel_rfl))
theorem S126:GY YD9:=fun h=>YzA (S125 h) (Yaa (i:=151) rfl (by kernel_rfl) (by decide) (by kernel_rfl))
theorem S127:GY YEO:=fun h=>YzC (S126 h) (Yaa (i:=117) rfl (by kernel_rfl) (by decide) (by kernel_rfl))
theorem S128:GY YFj:=S127
theorem S129:GY YFk:=S128
theorem S130:GY YFl:=S129
theorem S131:GY YFm:=S130
theorem S132:GY YFn:=S131
theorem S133:GY YEa:=S132
theorem S134:GY YEb:=fun h=>YzH (S133 h) (Yaa (i:=74) rfl (by kernel_rfl) (by decide) (by kernel_rfl))
theorem S135:GY YDO:=fun h=>YzJ (S134 h) (Yaa (i:=75) rfl (by kernel_rfl) (by decide) (by kernel_rfl))
theorem S136:GY YEP:=fun h=>YzO (S135 h) (Yaa (i:=73) rfl (by kernel_rfl) (by decide) (by kernel_rfl))
theorem S137:GY YEc:=S136
theorem S138:GY YEQ:=fun h=>YzT (S137 h) (Yaa (i:=22) rfl (by kernel_rfl) (by decide) (by kernel_rfl))
theorem S139:GY YFo:=S138
theorem S140:GY YFp:=S139
theorem S141:GY YFq:=S140
theorem S142:GY YFr:=S141
theorem S143:GY YFs:=S142
theorem S144:GY YFt:=S143
theorem S145:GY YEd:=S144
theorem S146:GY YER:=fun h=>YzY (S145 h) (Yaa (i:=27) rfl (by kernel_rfl) (by decide) (by kernel_rfl))
theorem S147:GY YFu:=S146
theorem S148:GY YFv:=S147
theorem S149:GY YFw:=S148
theorem S150:GY YFx:=S149
theorem S151:GY YFy:=S150
theorem S152:GY YES:=S151
theorem S153:GY YET:=fun h=>Yz0 (S152 h) (Yaa (i:=31) rfl (by kernel_rfl) (by decide) (by kernel_rfl))
theorem S154:GY YFz:=S153
theorem S155:GY YFA:=S154
theorem S156:GY YFB:=S155
theorem S157:GY YFC:=S156
theorem S158:GY YFD:=S157
theorem S159:GY YFE:=S158
theorem S160:GY YEe:=S159
theorem S161:GY YEf:=fun h=>Yz5 (S160 h) (Yaa (i:=35) rfl (by kernel_rfl) (by decide) (by kernel_rfl))
theorem S162:GY YEg:=fun h=>Yz7 (S161 h) (Yaa (i:=36) rfl (by kernel_rfl) (by decide) (by kernel_rfl))
theorem S163:GY YEh:=fun h=>Yz9 (S162 h) (Yaa (i:=38) rfl (by kernel_rfl) (by decide) (by kernel_rfl))
theorem S164:GY YDP:=fun h=>YAb (S163 h) (Yaa (i:=93) rfl (by kernel_rfl) (by decide) (by kernel_rfl))
theorem S165:GY YDQ:=fun h=>YAg (S164 h) (Yaa (i:=37) rfl (by kernel_rfl) (by decide) (by kernel_rfl))
theorem S166:GY YFF:=fun h=>YAl (S165 h) (Yaa (i:=10) rfl (by kernel_rfl) (by decide) (by kernel_rfl))
end Go.Abs.G47
