/- The functions of this seat's program are those of the texts: each is compared by the kernel. No condition. -/
import Derived.Test.YtlmcnindhfbkhaaGreatDoorG1
import Derived.Test.YtlmcnindhfbkhaaGreatDoorB
import Derived.Test.YtlmcnindhfbkhaaGreatDoorL
import Derived.Test.YtlmcnindhfbkhaaGreatDoorChecked
set_option linter.unusedVariables false
set_option linter.unusedSimpArgs false
set_option linter.unusedSectionVars false
namespace Go.Abs.G47
open Go Go.Abs Go.Proofs
def fmL:List Nat:=[0,0,1075,459,460,461,462,463,464,465,466,467,468,469,470,471,472,473,474,475,476,477,478,479,480,481,482,483,484,485,486,487,488,489,490,491,492,282,493,355,494,308,495,496,346,497,498,499,500,501,502,503,504,505,506,507,508,509,239,510,251,511,272,512,513,514,296,149,151,515,271,516,517,518,274,297,519,520,521,522,523,524,525,526,269,527,528,529,265,258,530,169,531,290,532,533,534,245,351,535,536,537,538,283,256,539,540,541,231,542,275,310,164,543,301,163,544,302,303,545,546,547,548,295,549,550,188,551,230,552,553,554,555,556,173,557,259,260,284,0,311,312,313,314,315,316,317,318,319,186,187,320,1081,200,153,558,255,257,559,560,426,561,434,322,195,196,323,324,325,1082,1083,1084,1085,0,293,294,442,448,327,1090,1091,1092,209,309,212,213,0,0,0,0,0,0,0,0,0,0,0,0,214,0,0,215,216,0,0,0,0,0,0,1098]
def fm:FM:={f:=fmOf fmL,own:=[("value.go:49",6),("value.go:141",12)],dat:=[("ref.go:162",66),("query.go:316",30),("query.go:221",8)],mks:=["query.go:221", "query.go:316"],bt:=120,bu:=5}
theorem mixed:Tryz.prog.follows .mixedOrders=true:=by kernel_rfl
abbrev GY(fs:Lo->List FnE):Prop:= ∀{lo:Lo},LoOK lo->GZ Tryz.prog fm fs lo
theorem S0:GY fs0:=fun h=>⟨h,mixed,Yqy Tryz.prog fm pf []⟩
theorem S1:GY fs1:=fun h=>YrC (S0 h) (Yaa (i:=46) rfl (by kernel_rfl) (by decide) (by kernel_rfl))
theorem S2:GY fs2:=fun h=>YrH (S1 h) (Yaa (i:=45) rfl (by kernel_rfl) (by decide) (by kernel_rfl))
theorem S3:GY fs3:=fun h=>YrJ (S2 h) (Yaa (i:=47) rfl (by kernel_rfl) (by decide) (by kernel_rfl))
theorem S4:GY fs4:=fun h=>YrO (S3 h) (Yaa (i:=156) rfl (by kernel_rfl) (by decide) (by kernel_rfl))
theorem S5:GY fs5:=fun h=>YrT (S4 h) (Yaa (i:=134) rfl (by kernel_rfl) (by decide) (by kernel_rfl))
theorem S6:GY fs6:=fun h=>YrV (S5 h) (Yaa (i:=104) rfl (by kernel_rfl) (by decide) (by kernel_rfl))
theorem S7:GY fs7:=fun h=>YrX (S6 h) (Yaa (i:=103) rfl (by kernel_rfl) (by decide) (by kernel_rfl))
theorem S8:GY fs8:=fun h=>YrZ (S7 h) (Yaa (i:=175) rfl (by kernel_rfl) (by decide) (by kernel_rfl))
theorem S9:GY fs9:=fun h=>Yr4 (S8 h) (Yaa (i:=183) rfl (by kernel_rfl) (by decide) (by kernel_rfl))
theorem S10:GY fs10:=fun h=>Yr6 (S9 h) (Yaa (i:=174) rfl (by kernel_rfl) (by decide) (by kernel_rfl))
theorem S11:GY fs11:=fun h=>Yr8 (S10 h) (Yaa (i:=157) rfl (by kernel_rfl) (by decide) (by kernel_rfl))
theorem S12:GY fs12:=fun h=>Ysf (S11 h) (Yaa (i:=128) rfl (by kernel_rfl) (by decide) (by kernel_rfl))
theorem S13:GY fs13:=fun h=>Ysh (S12 h) (Yaa (i:=159) rfl (by kernel_rfl) (by decide) (by kernel_rfl))
theorem S14:GY fs14:=fun h=>Ysm (S13 h) (Yaa (i:=158) rfl (by kernel_rfl) (by decide) (by kernel_rfl))
theorem S15:GY fs15:=fun h=>Yso (S14 h) (Yaa (i:=129) rfl (by kernel_rfl) (by decide) (by kernel_rfl))
theorem S16:GY fs16:=fun h=>Yst (S15 h) (Yaa (i:=99) rfl (by kernel_rfl) (by decide) (by kernel_rfl))
theorem S17:GY fs17:=fun h=>Ysv (S16 h) (Yaa (i:=161) rfl (by kernel_rfl) (by decide) (by kernel_rfl))
theorem S18:GY fs18:=fun h=>YsA (S17 h) (Yaa (i:=176) rfl (by kernel_rfl) (by decide) (by kernel_rfl))
theorem S19:GY fs19:=fun h=>YsC (S18 h) (Yaa (i:=160) rfl (by kernel_rfl) (by decide) (by kernel_rfl))
theorem S20:GY fs20:=fun h=>YsE (S19 h) (Yaa (i:=130) rfl (by kernel_rfl) (by decide) (by kernel_rfl))
theorem S21:GY fs21:=fun h=>YsJ (S20 h) (Yaa (i:=177) rfl (by kernel_rfl) (by decide) (by kernel_rfl))
theorem S22:GY fs22:=fun h=>YsL (S21 h) (Yaa (i:=162) rfl (by kernel_rfl) (by decide) (by kernel_rfl))
theorem S23:GY fs23:=fun h=>YsQ (S22 h) (Yaa (i:=131) rfl (by kernel_rfl) (by decide) (by kernel_rfl))
theorem S24:GY fs24:=fun h=>YsS (S23 h) (Yaa (i:=100) rfl (by kernel_rfl) (by decide) (by kernel_rfl))
theorem S25:GY fs25:=fun h=>YsU (S24 h) (Yaa (i:=48) rfl (by kernel_rfl) (by decide) (by kernel_rfl))
theorem S26:GY fs26:=fun h=>YsZ (S25 h) (Yaa (i:=49) rfl (by kernel_rfl) (by decide) (by kernel_rfl))
theorem S27:GY fs27:=fun h=>Ys1 (S26 h) (Yaa (i:=132) rfl (by kernel_rfl) (by decide) (by kernel_rfl))
theorem S28:GY fs28:=fun h=>Ys3 (S27 h) (Yaa (i:=133) rfl (by kernel_rfl) (by decide) (by kernel_rfl))
theorem S29:GY fs29:=fun h=>Ys8 (S28 h) (Yaa (i:=102) rfl (by kernel_rfl) (by decide) (by kernel_rfl))
theorem S30:GY fs30:=fun h=>Yta (S29 h) (Yaa (i:=52) rfl (by kernel_rfl) (by decide) (by kernel_rfl))
theorem S31:GY fs31:=fun h=>Ytc (S30 h) (Yaa (i:=51) rfl (by kernel_rfl) (by decide) (by kernel_rfl))
theorem S32:GY fs32:=fun h=>Yth (S31 h) (Yaa (i:=101) rfl (by kernel_rfl) (by decide) (by kernel_rfl))
theorem S33:GY fs33:=fun h=>Ytj (S32 h) (Yaa (i:=50) rfl (by kernel_rfl) (by decide) (by kernel_rfl))
theorem S34:GY fs34:=fun h=>Ytl (S33 h) (Yaa (i:=107) rfl (by kernel_rfl) (by decide) (by kernel_rfl))
theorem S35:GY fs35:=fun h=>Ytq (S34 h) (Yaa (i:=101) rfl (by kernel_rfl) (by decide) (by kernel_rfl))
theorem S36:GY fs36:=fun h=>Yts (S35 h) (Yaa (i:=50) rfl (by kernel_rfl) (by decide) (by kernel_rfl))
theorem S37:GY fs37:=fun h=>Ytu (S36 h) (Yaa (i:=106) rfl (by kernel_rfl) (by decide) (by kernel_rfl))
theorem S38:GY fs38:=fun h=>Ytz (S37 h) (Yaa (i:=135) rfl (by kernel_rfl) (by decide) (by kernel_rfl))
theorem S39:GY fs39:=fun h=>YtB (S38 h) (Yaa (i:=105) rfl (by kernel_rfl) (by decide) (by kernel_rfl))
theorem S40:GY fs40:=fun h=>YtG (S39 h) (Yaa (i:=53) rfl (by kernel_rfl) (by decide) (by kernel_rfl))
theorem S41:GY fs41:=fun h=>YtL (S40 h) (Yaa (i:=16) rfl (by kernel_rfl) (by decide) (by kernel_rfl))
theorem S42:GY fs42:=fun h=>YtQ (S41 h) (Yaa (i:=63) rfl (by kernel_rfl) (by decide) (by kernel_rfl))
theorem S43:GY fs43:=fun h=>YtV (S42 h) (Yaa (i:=65) rfl (by kernel_rfl) (by decide) (by kernel_rfl))
theorem S44:GY fs44:=fun h=>Yt0 (S43 h) (Yaa (i:=111) rfl (by kernel_rfl) (by decide) (by kernel_rfl))
theorem S45:GY fs45:=fun h=>Yt7 (S44 h) (Yaa (i:=66) rfl (by kernel_rfl) (by decide) (by kernel_rfl))
theorem YBN{g i f:Nat}(h:YAI g fmL i 0=true)(hg:g≠0)(hf:fm f=g):f=i:=YjA h hg hf
theorem YDp:BldOK Tryz.prog fm Tryz.lays156_ren:=⟨Tryz.bextra,by kernel_rfl⟩
theorem YDx: ∀f,fm f=164->Yzr Tryz.prog f=true/\ ∃ρ:Go.Shelf.Ren,Go.Proofs.Lays.n240 Tryz.prog ρ/\BldOK Tryz.prog fm ρ/\ρ.f 240=f:=fun f h=>by
  have:=YBN (i:=112) (by kernel_rfl) (by decide) h;subst this
  exact⟨by kernel_rfl,_,Tryz.lays240',YDp,by kernel_rfl⟩
theorem S46:GY fs46:=fun h=>Yt9 (S45 h) (YDx)
theorem S47:GY fs47:=fun h=>Yub (S46 h) (Yaa (i:=67) rfl (by kernel_rfl) (by decide) (by kernel_rfl))
theorem YDy: ∀f,fm f=151->Yzr Tryz.prog f=true/\ ∃ρ:Go.Shelf.Ren,Go.Proofs.Lays.n169 Tryz.prog ρ/\BldOK Tryz.prog fm ρ/\fm.bu=ρ.t 5/\ρ.f 169=f:=fun f h=>by
  have:=YBN (i:=68) (by kernel_rfl) (by decide) h;subst this
  exact⟨by kernel_rfl,_,Tryz.lays169',YDp,by kernel_rfl,by kernel_rfl⟩
theorem S48:GY fs48:=fun h=>Yud (S47 h) (YDy)
theorem S49:GY fs49:=fun h=>Yui (S48 h) (Yaa (i:=64) rfl (by kernel_rfl) (by decide) (by kernel_rfl))
theorem S50:GY fs50:=fun h=>Yup (S49 h) (Yaa (i:=113) rfl (by kernel_rfl) (by decide) (by kernel_rfl))
theorem S51:GY fs51:=fun h=>Yuw (S50 h) (Yaa (i:=69) rfl (by kernel_rfl) (by decide) (by kernel_rfl))
theorem S52:GY fs52:=fun h=>YuB (S51 h) (Yaa (i:=150) rfl (by kernel_rfl) (by decide) (by kernel_rfl))
theorem S53:GY fs53:=fun h=>YuD (S52 h) (Yaa (i:=115) rfl (by kernel_rfl) (by decide) (by kernel_rfl))
theorem S54:GY fs54:=fun h=>YuF (S53 h) (Yaa (i:=168) rfl (by kernel_rfl) (by decide) (by kernel_rfl))
theorem S55:GY fs55:=fun h=>YuH (S54 h) (Yaa (i:=146) rfl (by kernel_rfl) (by decide) (by kernel_rfl))
theorem S56:GY fs56:=fun h=>YuO (S55 h) (Yaa (i:=140) rfl (by kernel_rfl) (by decide) (by kernel_rfl))
theorem S57:GY fs57:=fun h=>YuP (S56 h) trivial
theorem S58:GY fs58:=fun h=>YuQ (S57 h) trivial
theorem S59:GY fs59:=fun h=>YuR (S58 h) trivial
theorem S60:GY fs60:=fun h=>YuS (S59 h) trivial
theorem S61:GY fs61:=fun h=>YuT (S60 h) trivial
theorem S62:GY fs62:=fun h=>YuU (S61 h) trivial
theorem S63:GY fs63:=fun h=>YuV (S62 h) trivial
theorem S64:GY fs64:=fun h=>Yu6 (S63 h) (Yaa (i:=114) rfl (by kernel_rfl) (by decide) (by kernel_rfl))
theorem S65:GY fs65:=fun h=>Yu8 (S64 h) (Yaa (i:=70) rfl (by kernel_rfl) (by decide) (by kernel_rfl))
theorem YDz: ∀f,fm f=271->Yzr Tryz.prog f=true/\ ∃ρ:Go.Shelf.Ren,Go.Proofs.Lays.n190 Tryz.prog ρ/\ρ.f 190=f:=fun f h=>by
  have:=YBN (i:=70) (by kernel_rfl) (by decide) h;subst this
  exact⟨by kernel_rfl,_,Tryz.lays190,by kernel_rfl⟩
theorem S66:GY fs66:=fun h=>Yva (S65 h) (YDz)
theorem S67:GY fs67:=fun h=>Yvh (S66 h) (Yaa (i:=20) rfl (by kernel_rfl) (by decide) (by kernel_rfl))
theorem S68:GY fs68:=fun h=>Yvm (S67 h) (Yaa (i:=94) rfl (by kernel_rfl) (by decide) (by kernel_rfl))
theorem S69:GY fs69:=fun h=>Yvr (S68 h) (Yaa (i:=94) rfl (by kernel_rfl) (by decide) (by kernel_rfl))
theorem S70:GY fs70:=fun h=>Yvt (S69 h) (Yaa (i:=97) rfl (by kernel_rfl) (by decide) (by kernel_rfl))
theorem S71:GY fs71:=fun h=>Yvv (S70 h) (Yaa (i:=96) rfl (by kernel_rfl) (by decide) (by kernel_rfl))
theorem S72:GY fs72:=fun h=>YvC (S71 h) (Yaa (i:=113) rfl (by kernel_rfl) (by decide) (by kernel_rfl))
theorem S73:GY fs73:=fun h=>YvJ (S72 h) (Yaa (i:=69) rfl (by kernel_rfl) (by decide) (by kernel_rfl))
theorem S74:GY fs74:=fun h=>YvL (S73 h) (Yaa (i:=42) rfl (by kernel_rfl) (by decide) (by kernel_rfl))
theorem S75:GY fs75:=fun h=>YvN (S74 h) (Yaa (i:=119) rfl (by kernel_rfl) (by decide) (by kernel_rfl))
theorem S76:GY fs76:=fun h=>YvS (S75 h) (Yaa (i:=101) rfl (by kernel_rfl) (by decide) (by kernel_rfl))
theorem S77:GY fs77:=fun h=>YvU (S76 h) (Yaa (i:=50) rfl (by kernel_rfl) (by decide) (by kernel_rfl))
theorem S78:GY fs78:=fun h=>YvZ (S77 h) (Yaa (i:=76) rfl (by kernel_rfl) (by decide) (by kernel_rfl))
theorem S79:GY fs79:=fun h=>Yv1 (S78 h) (Yaa (i:=84) rfl (by kernel_rfl) (by decide) (by kernel_rfl))
theorem S80:GY fs80:=fun h=>Yv3 (S79 h) (Yaa (i:=85) rfl (by kernel_rfl) (by decide) (by kernel_rfl))
theorem YDA: ∀f,fm f=548->Yzr Tryz.prog f=true/\ ∃ρ:Go.Shelf.Ren,Go.Proofs.Lays8.n4 Tryz.prog ρ/\ρ.f 4=f/\YAB Tryz.prog (ρ.t 25) 2=true:=fun f h=>by
  have:=YBN (i:=122) (by kernel_rfl) (by decide) h;subst this
  exact⟨by kernel_rfl,_,Tryz.lays8_4,by kernel_rfl,by kernel_rfl⟩
theorem S81:GY fs81:=fun h=>Yv5 (S80 h) (YDA)
theorem S82:GY fs82:=fun h=>Ywc (S81 h) (Yaa (i:=86) rfl (by kernel_rfl) (by decide) (by kernel_rfl))
theorem S83:GY fs83:=fun h=>Ywj (S82 h) (Yaa (i:=120) rfl (by kernel_rfl) (by decide) (by kernel_rfl))
theorem S84:GY fs84:=fun h=>Ywq (S83 h) (Yaa (i:=77) rfl (by kernel_rfl) (by decide) (by kernel_rfl))
theorem S85:GY fs85:=fun h=>Ywx (S84 h) (Yaa (i:=78) rfl (by kernel_rfl) (by decide) (by kernel_rfl))
theorem S86:GY fs86:=fun h=>YwE (S85 h) (Yaa (i:=23) rfl (by kernel_rfl) (by decide) (by kernel_rfl))
theorem S87:GY fs87:=fun h=>YwG (S86 h) (Yaa (i:=26) rfl (by kernel_rfl) (by decide) (by kernel_rfl))
theorem S88:GY fs88:=fun h=>YwN (S87 h) (Yaa (i:=28) rfl (by kernel_rfl) (by decide) (by kernel_rfl))
theorem S89:GY fs89:=fun h=>YwP (S88 h) (Yaa (i:=169) rfl (by kernel_rfl) (by decide) (by kernel_rfl))
theorem S90:GY fs90:=S89
theorem S91:GY fs91:=S90
theorem S92:GY fs92:=fun h=>YwR (S91 h) (Yaa (i:=152) rfl (by kernel_rfl) (by decide) (by kernel_rfl))
theorem S93:GY fs93:=fun h=>YwT (S92 h) (Yaa (i:=124) rfl (by kernel_rfl) (by decide) (by kernel_rfl))
theorem S94:GY fs94:=fun h=>YwY (S93 h) (Yaa (i:=125) rfl (by kernel_rfl) (by decide) (by kernel_rfl))
theorem S95:GY fs95:=fun h=>Yw0 (S94 h) (Yaa (i:=90) rfl (by kernel_rfl) (by decide) (by kernel_rfl))
theorem YDB: ∀f,fm f=169->Yzr Tryz.prog f=true/\ ∃ρ:Go.Shelf.Ren,Go.Proofs.Lays.n156 Tryz.prog ρ/\Go.Proofs.Builder.Extra Tryz.prog ρ/\ρ.f 156=f:=fun f h=>by
  have:=YBN (i:=91) (by kernel_rfl) (by decide) h;subst this
  exact⟨by kernel_rfl,_,Tryz.lays156,Tryz.bextra,by kernel_rfl⟩
theorem S96:GY fs96:=fun h=>Yw2 (S95 h) (YDB)
theorem S97:GY fs97:=fun h=>Yw9 (S96 h) (Yaa (i:=33) rfl (by kernel_rfl) (by decide) (by kernel_rfl))
theorem S98:GY fs98:=fun h=>Yxe (S97 h) (Yaa (i:=98) rfl (by kernel_rfl) (by decide) (by kernel_rfl))
theorem S99:GY fs99:=fun h=>Yxj (S98 h) (Yaa (i:=44) rfl (by kernel_rfl) (by decide) (by kernel_rfl))
theorem S100:GY YBB:=fun h=>Yxl (S99 h) (Yaa (i:=13) rfl (by kernel_rfl) (by decide) (by kernel_rfl))
theorem S101:GY YBC:=fun h=>Yxq (S100 h) (Yaa (i:=14) rfl (by kernel_rfl) (by decide) (by kernel_rfl))
theorem S102:GY YBY:=fun h=>Yxv (S101 h) (Yaa (i:=15) rfl (by kernel_rfl) (by decide) (by kernel_rfl))
theorem S103:GY YBD:=fun h=>Yxx (S102 h) (Yaa (i:=123) rfl (by kernel_rfl) (by decide) (by kernel_rfl))
theorem S104:GY YBE:=fun h=>YxC (S103 h) (Yaa (i:=89) rfl (by kernel_rfl) (by decide) (by kernel_rfl))
theorem S105:GY YBF:=fun h=>YxH (S104 h) (Yaa (i:=62) rfl (by kernel_rfl) (by decide) (by kernel_rfl))
theorem S106:GY YBZ:=fun h=>YxM (S105 h) (Yaa (i:=136) rfl (by kernel_rfl) (by decide) (by kernel_rfl))
theorem S107:GY YBG:=fun h=>YxO (S106 h) (Yaa (i:=138) rfl (by kernel_rfl) (by decide) (by kernel_rfl))
theorem S108:GY YBH:=fun h=>YxT (S107 h) (Yaa (i:=137) rfl (by kernel_rfl) (by decide) (by kernel_rfl))
theorem S109:GY YBI:=fun h=>YxY (S108 h) (Yaa (i:=108) rfl (by kernel_rfl) (by decide) (by kernel_rfl))
theorem S110:GY YBJ:=fun h=>Yx3 (S109 h) (Yaa (i:=55) rfl (by kernel_rfl) (by decide) (by kernel_rfl))
theorem S111:GY YB0:=fun h=>Yx8 (S110 h) (Yaa (i:=54) rfl (by kernel_rfl) (by decide) (by kernel_rfl))
theorem S112:GY YBK:=fun h=>Yya (S111 h) (Yaa (i:=109) rfl (by kernel_rfl) (by decide) (by kernel_rfl))
theorem S113:GY YBg:=fun h=>Yyf (S112 h) (Yaa (i:=56) rfl (by kernel_rfl) (by decide) (by kernel_rfl))
theorem S114:GY YBL:=fun h=>Yym (S113 h) (Yaa (i:=61) rfl (by kernel_rfl) (by decide) (by kernel_rfl))
theorem S115:GY YBM:=fun h=>Yyr (S114 h) (Yaa (i:=57) rfl (by kernel_rfl) (by decide) (by kernel_rfl))
theorem S116:GY YCr:=fun h=>Yyw (S115 h) (Yaa (i:=17) rfl (by kernel_rfl) (by decide) (by kernel_rfl))
theorem S117:GY YCG:=S116
theorem S118:GY YCH:=S117
theorem S119:GY YCI:=S118
theorem S120:GY YCJ:=S119
theorem S121:GY YCK:=S120
theorem S122:GY YCL:=S121
theorem S123:GY YCM:=S122
theorem S124:GY YCN:=S123
theorem S125:GY YCO:=S124
theorem S126:GY YCP:=S125
theorem S127:GY YCQ:=S126
theorem S128:GY YCR:=S127
theorem S129:GY YCS:=S128
theorem S130:GY YCT:=S129
theorem S131:GY YCU:=S130
theorem S132:GY YCV:=S131
theorem S133:GY YCW:=S132
theorem S134:GY YCX:=S133
theorem S135:GY YCY:=S134
theorem S136:GY YCZ:=S135
theorem S137:GY YC0:=S136
theorem S138:GY YC1:=S137
theorem S139:GY YC2:=S138
theorem S140:GY YC3:=S139
theorem S141:GY YC4:=S140
theorem S142:GY YC5:=S141
theorem S143:GY YC6:=S142
theorem S144:GY YC7:=S143
theorem S145:GY YC8:=S144
theorem S146:GY YC9:=S145
theorem S147:GY YDa:=S146
theorem S148:GY YDb:=S147
theorem S149:GY YDc:=S148
theorem S150:GY YDd:=S149
theorem S151:GY YDe:=S150
theorem S152:GY YDf:=S151
theorem S153:GY YDg:=S152
theorem S154:GY YDh:=S153
theorem S155:GY YDi:=S154
theorem S156:GY YDj:=S155
theorem S157:GY YDk:=S156
theorem S158:GY YDl:=S157
theorem S159:GY YDm:=S158
theorem S160:GY YCs:=S159
theorem S161:GY YBh:=fun h=>Yyy (S160 h) (Yaa (i:=95) rfl (by kernel_rfl) (by decide) (by kernel_rfl))
theorem S162:GY YBi:=fun h=>YyF (S161 h) (Yaa (i:=113) rfl (by kernel_rfl) (by decide) (by kernel_rfl))
theorem S163:GY YB1:=fun h=>YyM (S162 h) (Yaa (i:=69) rfl (by kernel_rfl) (by decide) (by kernel_rfl))
theorem S164:GY YCt:=fun h=>YyO (S163 h) (Yaa (i:=40) rfl (by kernel_rfl) (by decide) (by kernel_rfl))
theorem S165:GY YDn:=S164
theorem S166:GY YCu:=S165
theorem S167:GY YDo:=fun h=>YyQ (S166 h) (Yaa (i:=12) rfl (by kernel_rfl) (by decide) (by kernel_rfl))
end Go.Abs.G47
