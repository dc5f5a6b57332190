/- The functions of this seat's program are those of the texts: each is compared by the kernel. No condition. -/
import Derived.Test.YtlmcnindhfbkhaaGreatDoorG1
import Derived.Test.YtlmcnindhfbkhaaGreatDoorB
import Derived.Test.YtlmcnindhfbkhaaGreatDoorL
import Derived.Test.YtlmcnindhfbkhaaGreatDoorChecked
set_option linter.unusedVariables false
set_option linter.unusedSimpArgs false
set_option linter.unusedSectionVars false
namespace Go.Abs.G47
open Go Go.Abs Go.Proofs
def fmL:List Nat:=[0,0,1075,459,460,461,462,463,464,465,466,467,468,469,470,471,472,473,474,475,476,477,478,479,480,481,482,483,484,485,486,487,488,489,490,491,492,282,493,355,494,308,495,496,346,497,498,499,500,501,502,503,504,505,506,507,508,509,239,510,251,511,272,512,513,514,296,149,151,515,271,516,517,518,274,297,519,520,521,522,523,524,525,526,269,527,528,529,265,258,530,169,531,290,532,533,534,245,351,535,536,537,538,283,256,539,540,541,231,542,275,310,164,543,301,163,544,302,303,545,546,547,548,295,549,550,188,551,230,552,553,554,555,556,173,557,259,260,284,0,311,312,313,314,315,316,317,318,319,186,187,320,1081,200,153,558,255,257,559,560,426,561,434,322,195,196,323,324,325,1082,1083,1084,1085,0,293,294,442,448,327,1090,1091,1092,209,309,212,213,0,0,0,0,0,0,0,0,0,0,0,0,214,0,0,215,216,0,0,0,0,0,0,1098]
def fm:FM:={f:=fmOf fmL,own:=[("value.go:49",6),("value.go:141",12)],dat:=[("law.go:202",110),("ref.go:162",66),("query.go:316",30),("query.go:221",8)],mks:=["query.go:221", "query.go:316", "law.go:202"],bt:=120,bu:=5}
theorem mixed:Tryz.prog.follows .mixedOrders=true:=by kernel_rfl
abbrev GY(fs:Lo->List FnE):Prop:= ∀{lo:Lo},LoOK lo->GZ Tryz.prog fm fs lo
theorem S0:GY fs0:=fun h=>⟨h,mixed,Yss Tryz.prog fm pf []⟩
theorem S1:GY fs1:=fun h=>Ytv (S0 h) (Yaa (i:=46) rfl)
theorem S2:GY fs2:=fun h=>YtA (S1 h) (Yaa (i:=45) rfl)
theorem S3:GY fs3:=fun h=>YtC (S2 h) (Yaa (i:=47) rfl)
theorem S4:GY fs4:=fun h=>YtH (S3 h) (Yaa (i:=156) rfl)
theorem S5:GY fs5:=fun h=>YtM (S4 h) (Yaa (i:=134) rfl)
theorem S6:GY fs6:=fun h=>YtO (S5 h) (Yaa (i:=104) rfl)
theorem S7:GY fs7:=fun h=>YtQ (S6 h) (Yaa (i:=103) rfl)
theorem S8:GY fs8:=fun h=>YtS (S7 h) (Yaa (i:=175) rfl)
theorem S9:GY fs9:=fun h=>YtX (S8 h) (Yaa (i:=183) rfl)
theorem S10:GY fs10:=fun h=>YtZ (S9 h) (Yaa (i:=174) rfl)
theorem S11:GY fs11:=fun h=>Yt1 (S10 h) (Yaa (i:=157) rfl)
theorem S12:GY fs12:=fun h=>Yt8 (S11 h) (Yaa (i:=128) rfl)
theorem S13:GY fs13:=fun h=>Yua (S12 h) (Yaa (i:=159) rfl)
theorem S14:GY fs14:=fun h=>Yuf (S13 h) (Yaa (i:=158) rfl)
theorem S15:GY fs15:=fun h=>Yuh (S14 h) (Yaa (i:=129) rfl)
theorem S16:GY fs16:=fun h=>Yum (S15 h) (Yaa (i:=99) rfl)
theorem S17:GY fs17:=fun h=>Yuo (S16 h) (Yaa (i:=161) rfl)
theorem S18:GY fs18:=fun h=>Yut (S17 h) (Yaa (i:=176) rfl)
theorem S19:GY fs19:=fun h=>Yuv (S18 h) (Yaa (i:=160) rfl)
theorem S20:GY fs20:=fun h=>Yux (S19 h) (Yaa (i:=130) rfl)
theorem S21:GY fs21:=fun h=>YuC (S20 h) (Yaa (i:=177) rfl)
theorem S22:GY fs22:=fun h=>YuE (S21 h) (Yaa (i:=162) rfl)
theorem S23:GY fs23:=fun h=>YuJ (S22 h) (Yaa (i:=131) rfl)
theorem S24:GY fs24:=fun h=>YuL (S23 h) (Yaa (i:=100) rfl)
theorem S25:GY fs25:=fun h=>YuN (S24 h) (Yaa (i:=48) rfl)
theorem S26:GY fs26:=fun h=>YuS (S25 h) (Yaa (i:=49) rfl)
theorem S27:GY fs27:=fun h=>YuU (S26 h) (Yaa (i:=132) rfl)
theorem S28:GY fs28:=fun h=>YuW (S27 h) (Yaa (i:=133) rfl)
theorem S29:GY fs29:=fun h=>Yu1 (S28 h) (Yaa (i:=102) rfl)
theorem S30:GY fs30:=fun h=>Yu3 (S29 h) (Yaa (i:=52) rfl)
theorem S31:GY fs31:=fun h=>Yu5 (S30 h) (Yaa (i:=51) rfl)
theorem S32:GY fs32:=fun h=>Yva (S31 h) (Yaa (i:=101) rfl)
theorem S33:GY fs33:=fun h=>Yvc (S32 h) (Yaa (i:=50) rfl)
theorem S34:GY fs34:=fun h=>Yve (S33 h) (Yaa (i:=107) rfl)
theorem S35:GY fs35:=fun h=>Yvj (S34 h) (Yaa (i:=101) rfl)
theorem S36:GY fs36:=fun h=>Yvl (S35 h) (Yaa (i:=50) rfl)
theorem S37:GY fs37:=fun h=>Yvn (S36 h) (Yaa (i:=106) rfl)
theorem S38:GY fs38:=fun h=>Yvs (S37 h) (Yaa (i:=135) rfl)
theorem S39:GY fs39:=fun h=>Yvu (S38 h) (Yaa (i:=105) rfl)
theorem S40:GY fs40:=fun h=>Yvz (S39 h) (Yaa (i:=53) rfl)
theorem S41:GY fs41:=fun h=>YvE (S40 h) (Yaa (i:=16) rfl)
theorem S42:GY fs42:=fun h=>YvJ (S41 h) (Yaa (i:=63) rfl)
theorem S43:GY fs43:=fun h=>YvO (S42 h) (Yaa (i:=65) rfl)
theorem S44:GY fs44:=fun h=>YvT (S43 h) (Yaa (i:=111) rfl)
theorem S45:GY fs45:=fun h=>Yv0 (S44 h) (Yaa (i:=66) rfl)
theorem YFA{g i f:Nat}(h:YEp g fmL i 0=true)(hg:g≠0)(hf:fm f=g):f=i:=Yk5 h hg hf
theorem YHj:BldOK Tryz.prog fm Tryz.lays156_ren:=⟨Tryz.bextra,by kernel_rfl⟩
theorem YHx: ∀f,fm f=164->YC2 Tryz.prog f=true/\ ∃ρ:Go.Shelf.Ren,Go.Proofs.Lays.n240 Tryz.prog ρ/\BldOK Tryz.prog fm ρ/\ρ.f 240=f:=fun f h=>by
  have:=YFA (i:=112) (by kernel_rfl) (by decide) h;subst this
  exact⟨by kernel_rfl,_,Tryz.lays240',YHj,by kernel_rfl⟩
theorem S46:GY fs46:=fun h=>Yv2 (S45 h) (YHx)
theorem S47:GY fs47:=fun h=>Yv4 (S46 h) (Yaa (i:=67) rfl)
theorem YHy: ∀f,fm f=151->YC2 Tryz.prog f=true/\ ∃ρ:Go.Shelf.Ren,Go.Proofs.Lays.n169 Tryz.prog ρ/\BldOK Tryz.prog fm ρ/\fm.bu=ρ.t 5/\ρ.f 169=f:=fun f h=>by
  have:=YFA (i:=68) (by kernel_rfl) (by decide) h;subst this
  exact⟨by kernel_rfl,_,Tryz.lays169',YHj,by kernel_rfl,by kernel_rfl⟩
theorem S48:GY fs48:=fun h=>Yv6 (S47 h) (YHy)
theorem S49:GY fs49:=fun h=>Ywb (S48 h) (Yaa (i:=64) rfl)
theorem S50:GY fs50:=fun h=>Ywi (S49 h) (Yaa (i:=113) rfl)
theorem S51:GY fs51:=fun h=>Ywo (S50 h) (Yaa (i:=69) rfl)
theorem S52:GY fs52:=fun h=>Ywt (S51 h) (Yaa (i:=150) rfl)
theorem S53:GY fs53:=fun h=>Ywv (S52 h) (Yaa (i:=115) rfl)
theorem S54:GY fs54:=fun h=>Ywx (S53 h) (Yaa (i:=168) rfl)
theorem S55:GY fs55:=fun h=>Ywz (S54 h) (Yaa (i:=146) rfl)
theorem S56:GY fs56:=fun h=>YwG (S55 h) (Yaa (i:=140) rfl)
theorem S57:GY fs57:=fun h=>YwH (S56 h) trivial
theorem S58:GY fs58:=fun h=>YwI (S57 h) trivial
theorem S59:GY fs59:=fun h=>YwJ (S58 h) trivial
theorem S60:GY fs60:=fun h=>YwK (S59 h) trivial
theorem S61:GY fs61:=fun h=>YwL (S60 h) trivial
theorem S62:GY fs62:=fun h=>YwM (S61 h) trivial
theorem S63:GY fs63:=fun h=>YwN (S62 h) trivial
theorem S64:GY fs64:=fun h=>YwY (S63 h) (Yaa (i:=114) rfl)
theorem S65:GY fs65:=fun h=>Yw0 (S64 h) (Yaa (i:=70) rfl)
theorem YHz: ∀f,fm f=271->YC2 Tryz.prog f=true/\ ∃ρ:Go.Shelf.Ren,Go.Proofs.Lays.n190 Tryz.prog ρ/\ρ.f 190=f:=fun f h=>by
  have:=YFA (i:=70) (by kernel_rfl) (by decide) h;subst this
  exact⟨by kernel_rfl,_,Tryz.lays190,by kernel_rfl⟩
theorem S66:GY fs66:=fun h=>Yw2 (S65 h) (YHz)
theorem S67:GY fs67:=fun h=>Yw9 (S66 h) (Yaa (i:=20) rfl)
theorem S68:GY fs68:=fun h=>Yxe (S67 h) (Yaa (i:=94) rfl)
theorem S69:GY fs69:=fun h=>Yxj (S68 h) (Yaa (i:=94) rfl)
theorem S70:GY fs70:=fun h=>Yxl (S69 h) (Yaa (i:=97) rfl)
theorem S71:GY fs71:=fun h=>Yxn (S70 h) (Yaa (i:=96) rfl)
theorem S72:GY fs72:=fun h=>Yxu (S71 h) (Yaa (i:=113) rfl)
theorem S73:GY fs73:=fun h=>YxA (S72 h) (Yaa (i:=69) rfl)
theorem S74:GY fs74:=fun h=>YxC (S73 h) (Yaa (i:=42) rfl)
theorem S75:GY fs75:=fun h=>YxE (S74 h) (Yaa (i:=119) rfl)
theorem S76:GY fs76:=fun h=>YxJ (S75 h) (Yaa (i:=101) rfl)
theorem S77:GY fs77:=fun h=>YxL (S76 h) (Yaa (i:=50) rfl)
theorem S78:GY fs78:=fun h=>YxQ (S77 h) (Yaa (i:=76) rfl)
theorem S79:GY fs79:=fun h=>YxS (S78 h) (Yaa (i:=84) rfl)
theorem S80:GY fs80:=fun h=>YxU (S79 h) (Yaa (i:=85) rfl)
theorem YHA: ∀f,fm f=548->YC2 Tryz.prog f=true/\ ∃ρ:Go.Shelf.Ren,Go.Proofs.Lays8.n4 Tryz.prog ρ/\ρ.f 4=f/\YEb Tryz.prog (ρ.t 25) 2=true:=fun f h=>by
  have:=YFA (i:=122) (by kernel_rfl) (by decide) h;subst this
  exact⟨by kernel_rfl,_,Tryz.lays8_4,by kernel_rfl,by kernel_rfl⟩
theorem S81:GY fs81:=fun h=>YxW (S80 h) (YHA)
theorem S82:GY fs82:=fun h=>Yx3 (S81 h) (Yaa (i:=86) rfl)
theorem S83:GY fs83:=fun h=>Yya (S82 h) (Yaa (i:=120) rfl)
theorem S84:GY fs84:=fun h=>Yyh (S83 h) (Yaa (i:=77) rfl)
theorem S85:GY fs85:=fun h=>Yyo (S84 h) (Yaa (i:=78) rfl)
theorem S86:GY fs86:=fun h=>Yyv (S85 h) (Yaa (i:=23) rfl)
theorem S87:GY fs87:=fun h=>Yyx (S86 h) (Yaa (i:=26) rfl)
theorem S88:GY fs88:=fun h=>YyE (S87 h) (Yaa (i:=28) rfl)
theorem S89:GY fs89:=fun h=>YyG (S88 h) (Yaa (i:=169) rfl)
theorem S90:GY fs90:=S89
theorem S91:GY fs91:=S90
theorem S92:GY fs92:=fun h=>YyI (S91 h) (Yaa (i:=152) rfl)
theorem S93:GY fs93:=fun h=>YyK (S92 h) (Yaa (i:=124) rfl)
theorem S94:GY fs94:=fun h=>YyP (S93 h) (Yaa (i:=125) rfl)
theorem S95:GY fs95:=fun h=>YyR (S94 h) (Yaa (i:=90) rfl)
theorem YHB: ∀f,fm f=169->YC2 Tryz.prog f=true/\ ∃ρ:Go.Shelf.Ren,Go.Proofs.Lays.n156 Tryz.prog ρ/\Go.Proofs.Builder.Extra Tryz.prog ρ/\ρ.f 156=f:=fun f h=>by
  have:=YFA (i:=91) (by kernel_rfl) (by decide) h;subst this
  exact⟨by kernel_rfl,_,Tryz.lays156,Tryz.bextra,by kernel_rfl⟩
theorem S96:GY fs96:=fun h=>YyT (S95 h) (YHB)
theorem S97:GY fs97:=fun h=>Yy0 (S96 h) (Yaa (i:=33) rfl)
theorem S98:GY fs98:=fun h=>Yy5 (S97 h) (Yaa (i:=98) rfl)
theorem S99:GY fs99:=fun h=>Yza (S98 h) (Yaa (i:=44) rfl)
theorem S100:GY YGv:=fun h=>Yzc (S99 h) (Yaa (i:=13) rfl)
theorem S101:GY YGN:=S100
theorem S102:GY YGw:=S101
theorem S103:GY YFi:=fun h=>Yze (S102 h) (Yaa (i:=123) rfl)
theorem S104:GY YFj:=fun h=>Yzj (S103 h) (Yaa (i:=89) rfl)
theorem S105:GY YFk:=fun h=>Yzo (S104 h) (Yaa (i:=62) rfl)
theorem S106:GY YFP:=fun h=>Yzt (S105 h) (Yaa (i:=136) rfl)
theorem S107:GY YFl:=fun h=>Yzv (S106 h) (Yaa (i:=138) rfl)
theorem S108:GY YFm:=fun h=>YzA (S107 h) (Yaa (i:=137) rfl)
theorem S109:GY YFn:=fun h=>YzF (S108 h) (Yaa (i:=108) rfl)
theorem S110:GY YFo:=fun h=>YzK (S109 h) (Yaa (i:=55) rfl)
theorem S111:GY YFQ:=fun h=>YzP (S110 h) (Yaa (i:=54) rfl)
theorem S112:GY YFp:=fun h=>YzR (S111 h) (Yaa (i:=109) rfl)
theorem S113:GY YEX:=fun h=>YzW (S112 h) (Yaa (i:=56) rfl)
theorem S114:GY YFq:=fun h=>Yz3 (S113 h) (Yaa (i:=61) rfl)
theorem S115:GY YFr:=fun h=>Yz8 (S114 h) (Yaa (i:=57) rfl)
theorem S116:GY YGx:=fun h=>YAd (S115 h) (Yaa (i:=17) rfl)
theorem S117:GY YGy:=S116
theorem S118:GY YEY:=fun h=>YAf (S117 h) (Yaa (i:=60) rfl)
theorem S119:GY YFR:=fun h=>YAm (S118 h) (Yaa (i:=110) rfl)
theorem S120:GY YFs:=fun h=>YAo (S119 h) (Yaa (i:=58) rfl)
theorem S121:GY YFS:=fun h=>YAt (S120 h) (Yaa (i:=18) rfl)
theorem S122:GY YED:=fun h=>YAv (S121 h) (Yaa (i:=59) rfl)
theorem S123:GY YFt:=fun h=>YAG (S122 h) (Yaa (i:=19) rfl)
theorem S124:GY YFT:=fun h=>YAL (S123 h) (Yaa (i:=116) rfl)
theorem S125:GY YFu:=fun h=>YAN (S124 h) (Yaa (i:=118) rfl)
theorem S126:GY YFU:=fun h=>YAS (S125 h) (Yaa (i:=151) rfl)
theorem S127:GY YFV:=fun h=>YAU (S126 h) (Yaa (i:=117) rfl)
theorem S128:GY YFW:=fun h=>YAW (S127 h) (Yaa (i:=81) rfl)
theorem S129:GY YFv:=fun h=>YAY (S128 h) (Yaa (i:=121) rfl)
theorem S130:GY YFw:=fun h=>YA3 (S129 h) (Yaa (i:=83) rfl)
theorem S131:GY YFX:=fun h=>YA7 (S130 h) (Yaa (i:=71) rfl)
theorem S132:GY YFx:=fun h=>YA9 (S131 h) (Yaa (i:=82) rfl)
theorem S133:GY YFy:=fun h=>YBe (S132 h) (Yaa (i:=72) rfl)
theorem S134:GY YFY:=fun h=>YBj (S133 h) (Yaa (i:=74) rfl)
theorem S135:GY YGz:=fun h=>YBl (S134 h) (Yaa (i:=75) rfl)
theorem S136:GY YGO:=S135
theorem S137:GY YGP:=S136
theorem S138:GY YGQ:=S137
theorem S139:GY YGR:=S138
theorem S140:GY YGS:=S139
theorem S141:GY YGT:=S140
theorem S142:GY YGU:=S141
theorem S143:GY YGV:=S142
theorem S144:GY YGW:=S143
theorem S145:GY YGX:=S144
theorem S146:GY YGY:=S145
theorem S147:GY YGZ:=S146
theorem S148:GY YG0:=S147
theorem S149:GY YG1:=S148
theorem S150:GY YG2:=S149
theorem S151:GY YG3:=S150
theorem S152:GY YG4:=S151
theorem S153:GY YG5:=S152
theorem S154:GY YG6:=S153
theorem S155:GY YG7:=S154
theorem S156:GY YG8:=S155
theorem S157:GY YG9:=S156
theorem S158:GY YHa:=S157
theorem S159:GY YHb:=S158
theorem S160:GY YHc:=S159
theorem S161:GY YHd:=S160
theorem S162:GY YHe:=S161
theorem S163:GY YHf:=S162
theorem S164:GY YHg:=S163
theorem S165:GY YHh:=S164
theorem S166:GY YFZ:=S165
theorem S167:GY YF0:=fun h=>YBq (S166 h) (Yaa (i:=39) rfl)
theorem S168:GY YF1:=fun h=>YBs (S167 h) (Yaa (i:=41) rfl)
theorem S169:GY YEZ:=fun h=>YBu (S168 h) (Yaa (i:=95) rfl)
theorem S170:GY YE0:=fun h=>YBB (S169 h) (Yaa (i:=113) rfl)
theorem S171:GY YF2:=fun h=>YBH (S170 h) (Yaa (i:=69) rfl)
theorem S172:GY YFz:=fun h=>YBJ (S171 h) (Yaa (i:=40) rfl)
theorem S173:GY YF3:=fun h=>YBO (S172 h) (Yaa (i:=43) rfl)
theorem S174:GY YHi:=fun h=>YBQ (S173 h) (Yaa (i:=11) rfl)
end Go.Abs.G47
