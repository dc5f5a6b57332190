/- The functions of this seat's program are those of the texts: each is compared by the kernel. No condition. -/
import Derived.Test.YtlmcnindhfbkhaaGreatDoorG1
import Derived.Test.YtlmcnindhfbkhaaGreatDoorB
import Derived.Test.YtlmcnindhfbkhaaGreatDoorL
import Derived.Test.YtlmcnindhfbkhaaGreatDoorChecked
set_option linter.unusedVariables false
set_option linter.unusedSimpArgs false
set_option linter.unusedSectionVars false
namespace Go.Abs.G47
open Go Go.Abs Go.Proofs
def fmL:List Nat:=[0,0,1075,459,460,461,462,463,464,465,466,467,468,469,470,471,472,473,474,475,476,477,478,479,480,481,482,483,484,485,486,487,488,489,490,491,492,282,493,355,494,308,495,496,346,497,498,499,500,501,502,503,504,505,506,507,508,509,239,510,251,511,272,512,513,514,296,149,151,515,271,516,517,518,274,297,519,520,521,522,523,524,525,526,269,527,528,529,265,258,530,169,531,290,532,533,534,245,351,535,536,537,538,283,256,539,540,541,231,542,275,310,164,543,301,163,544,302,303,545,546,547,548,295,549,550,188,551,230,552,553,554,555,556,173,557,259,260,284,0,311,312,313,314,315,316,317,318,319,186,187,320,1081,200,153,558,255,257,559,560,426,561,434,322,195,196,323,324,325,1082,1083,1084,1085,0,293,294,442,448,327,1090,1091,1092,209,309,212,213,0,0,0,0,0,0,0,0,0,0,0,0,214,0,0,215,216,0,0,0,0,0,0,1098]
def fm:FM:={f:=fmOf fmL,own:=[("value.go:49",6),("value.go:141",12)],dat:=[("law.go:202",110),("ref.go:162",66),("query.go:316",30),("query.go:221",8)],mks:=["query.go:221", "query.go:316", "law.go:202"],bt:=120,bu:=5}
theorem mixed:Tryz.prog.follows .mixedOrders=true:=by kernel_rfl
abbrev GY(fs:Lo->List FnE):Prop:= ∀{lo:Lo},LoOK lo->GZ Tryz.prog fm fs lo
theorem S0:GY fs0:=fun h=>⟨h,mixed,YsH Tryz.prog fm pf []⟩
theorem S1:GY fs1:=fun h=>YtK (S0 h) (Yaa (i:=46) rfl (by kernel_rfl) (by decide) (by kernel_rfl))
theorem S2:GY fs2:=fun h=>YtP (S1 h) (Yaa (i:=45) rfl (by kernel_rfl) (by decide) (by kernel_rfl))
theorem S3:GY fs3:=fun h=>YtR (S2 h) (Yaa (i:=47) rfl (by kernel_rfl) (by decide) (by kernel_rfl))
theorem S4:GY fs4:=fun h=>YtW (S3 h) (Yaa (i:=156) rfl (by kernel_rfl) (by decide) (by kernel_rfl))
theorem S5:GY fs5:=fun h=>Yt1 (S4 h) (Yaa (i:=134) rfl (by kernel_rfl) (by decide) (by kernel_rfl))
theorem S6:GY fs6:=fun h=>Yt3 (S5 h) (Yaa (i:=104) rfl (by kernel_rfl) (by decide) (by kernel_rfl))
theorem S7:GY fs7:=fun h=>Yt5 (S6 h) (Yaa (i:=103) rfl (by kernel_rfl) (by decide) (by kernel_rfl))
theorem S8:GY fs8:=fun h=>Yt7 (S7 h) (Yaa (i:=175) rfl (by kernel_rfl) (by decide) (by kernel_rfl))
theorem S9:GY fs9:=fun h=>Yuc (S8 h) (Yaa (i:=183) rfl (by kernel_rfl) (by decide) (by kernel_rfl))
theorem S10:GY fs10:=fun h=>Yue (S9 h) (Yaa (i:=174) rfl (by kernel_rfl) (by decide) (by kernel_rfl))
theorem S11:GY fs11:=fun h=>Yug (S10 h) (Yaa (i:=157) rfl (by kernel_rfl) (by decide) (by kernel_rfl))
theorem S12:GY fs12:=fun h=>Yun (S11 h) (Yaa (i:=128) rfl (by kernel_rfl) (by decide) (by kernel_rfl))
theorem S13:GY fs13:=fun h=>Yup (S12 h) (Yaa (i:=159) rfl (by kernel_rfl) (by decide) (by kernel_rfl))
theorem S14:GY fs14:=fun h=>Yuu (S13 h) (Yaa (i:=158) rfl (by kernel_rfl) (by decide) (by kernel_rfl))
theorem S15:GY fs15:=fun h=>Yuw (S14 h) (Yaa (i:=129) rfl (by kernel_rfl) (by decide) (by kernel_rfl))
theorem S16:GY fs16:=fun h=>YuB (S15 h) (Yaa (i:=99) rfl (by kernel_rfl) (by decide) (by kernel_rfl))
theorem S17:GY fs17:=fun h=>YuD (S16 h) (Yaa (i:=161) rfl (by kernel_rfl) (by decide) (by kernel_rfl))
theorem S18:GY fs18:=fun h=>YuI (S17 h) (Yaa (i:=176) rfl (by kernel_rfl) (by decide) (by kernel_rfl))
theorem S19:GY fs19:=fun h=>YuK (S18 h) (Yaa (i:=160) rfl (by kernel_rfl) (by decide) (by kernel_rfl))
theorem S20:GY fs20:=fun h=>YuM (S19 h) (Yaa (i:=130) rfl (by kernel_rfl) (by decide) (by kernel_rfl))
theorem S21:GY fs21:=fun h=>YuR (S20 h) (Yaa (i:=177) rfl (by kernel_rfl) (by decide) (by kernel_rfl))
theorem S22:GY fs22:=fun h=>YuT (S21 h) (Yaa (i:=162) rfl (by kernel_rfl) (by decide) (by kernel_rfl))
theorem S23:GY fs23:=fun h=>YuY (S22 h) (Yaa (i:=131) rfl (by kernel_rfl) (by decide) (by kernel_rfl))
theorem S24:GY fs24:=fun h=>Yu0 (S23 h) (Yaa (i:=100) rfl (by kernel_rfl) (by decide) (by kernel_rfl))
theorem S25:GY fs25:=fun h=>Yu2 (S24 h) (Yaa (i:=48) rfl (by kernel_rfl) (by decide) (by kernel_rfl))
theorem S26:GY fs26:=fun h=>Yu7 (S25 h) (Yaa (i:=49) rfl (by kernel_rfl) (by decide) (by kernel_rfl))
theorem S27:GY fs27:=fun h=>Yu9 (S26 h) (Yaa (i:=132) rfl (by kernel_rfl) (by decide) (by kernel_rfl))
theorem S28:GY fs28:=fun h=>Yvb (S27 h) (Yaa (i:=133) rfl (by kernel_rfl) (by decide) (by kernel_rfl))
theorem S29:GY fs29:=fun h=>Yvg (S28 h) (Yaa (i:=102) rfl (by kernel_rfl) (by decide) (by kernel_rfl))
theorem S30:GY fs30:=fun h=>Yvi (S29 h) (Yaa (i:=52) rfl (by kernel_rfl) (by decide) (by kernel_rfl))
theorem S31:GY fs31:=fun h=>Yvk (S30 h) (Yaa (i:=51) rfl (by kernel_rfl) (by decide) (by kernel_rfl))
theorem S32:GY fs32:=fun h=>Yvp (S31 h) (Yaa (i:=101) rfl (by kernel_rfl) (by decide) (by kernel_rfl))
theorem S33:GY fs33:=fun h=>Yvr (S32 h) (Yaa (i:=50) rfl (by kernel_rfl) (by decide) (by kernel_rfl))
theorem S34:GY fs34:=fun h=>Yvt (S33 h) (Yaa (i:=107) rfl (by kernel_rfl) (by decide) (by kernel_rfl))
theorem S35:GY fs35:=fun h=>Yvy (S34 h) (Yaa (i:=101) rfl (by kernel_rfl) (by decide) (by kernel_rfl))
theorem S36:GY fs36:=fun h=>YvA (S35 h) (Yaa (i:=50) rfl (by kernel_rfl) (by decide) (by kernel_rfl))
theorem S37:GY fs37:=fun h=>YvC (S36 h) (Yaa (i:=106) rfl (by kernel_rfl) (by decide) (by kernel_rfl))
theorem S38:GY fs38:=fun h=>YvH (S37 h) (Yaa (i:=135) rfl (by kernel_rfl) (by decide) (by kernel_rfl))
theorem S39:GY fs39:=fun h=>YvJ (S38 h) (Yaa (i:=105) rfl (by kernel_rfl) (by decide) (by kernel_rfl))
theorem S40:GY fs40:=fun h=>YvO (S39 h) (Yaa (i:=53) rfl (by kernel_rfl) (by decide) (by kernel_rfl))
theorem S41:GY fs41:=fun h=>YvT (S40 h) (Yaa (i:=16) rfl (by kernel_rfl) (by decide) (by kernel_rfl))
theorem S42:GY fs42:=fun h=>YvY (S41 h) (Yaa (i:=63) rfl (by kernel_rfl) (by decide) (by kernel_rfl))
theorem S43:GY fs43:=fun h=>Yv3 (S42 h) (Yaa (i:=65) rfl (by kernel_rfl) (by decide) (by kernel_rfl))
theorem S44:GY fs44:=fun h=>Yv8 (S43 h) (Yaa (i:=111) rfl (by kernel_rfl) (by decide) (by kernel_rfl))
theorem S45:GY fs45:=fun h=>Ywf (S44 h) (Yaa (i:=66) rfl (by kernel_rfl) (by decide) (by kernel_rfl))
theorem YFG{g i f:Nat}(h:YEv g fmL i 0=true)(hg:g≠0)(hf:fm f=g):f=i:=Yk5 h hg hf
theorem YGS:BldOK Tryz.prog fm Tryz.lays156_ren:=⟨Tryz.bextra,by kernel_rfl⟩
theorem YG8: ∀f,fm f=164->YC9 Tryz.prog f=true/\ ∃ρ:Go.Shelf.Ren,Go.Proofs.Lays.n240 Tryz.prog ρ/\BldOK Tryz.prog fm ρ/\ρ.f 240=f:=fun f h=>by
  have:=YFG (i:=112) (by kernel_rfl) (by decide) h;subst this
  exact⟨by kernel_rfl,_,Tryz.lays240',YGS,by kernel_rfl⟩
theorem S46:GY fs46:=fun h=>Ywh (S45 h) (YG8)
theorem S47:GY fs47:=fun h=>Ywj (S46 h) (Yaa (i:=67) rfl (by kernel_rfl) (by decide) (by kernel_rfl))
theorem YG9: ∀f,fm f=151->YC9 Tryz.prog f=true/\ ∃ρ:Go.Shelf.Ren,Go.Proofs.Lays.n169 Tryz.prog ρ/\BldOK Tryz.prog fm ρ/\fm.bu=ρ.t 5/\ρ.f 169=f:=fun f h=>by
  have:=YFG (i:=68) (by kernel_rfl) (by decide) h;subst this
  exact⟨by kernel_rfl,_,Tryz.lays169',YGS,by kernel_rfl,by kernel_rfl⟩
theorem S48:GY fs48:=fun h=>Ywl (S47 h) (YG9)
theorem S49:GY fs49:=fun h=>Ywq (S48 h) (Yaa (i:=64) rfl (by kernel_rfl) (by decide) (by kernel_rfl))
theorem S50:GY fs50:=fun h=>Ywx (S49 h) (Yaa (i:=113) rfl (by kernel_rfl) (by decide) (by kernel_rfl))
theorem S51:GY fs51:=fun h=>YwD (S50 h) (Yaa (i:=69) rfl (by kernel_rfl) (by decide) (by kernel_rfl))
theorem S52:GY fs52:=fun h=>YwI (S51 h) (Yaa (i:=150) rfl (by kernel_rfl) (by decide) (by kernel_rfl))
theorem S53:GY fs53:=fun h=>YwK (S52 h) (Yaa (i:=115) rfl (by kernel_rfl) (by decide) (by kernel_rfl))
theorem S54:GY fs54:=fun h=>YwM (S53 h) (Yaa (i:=168) rfl (by kernel_rfl) (by decide) (by kernel_rfl))
theorem S55:GY fs55:=fun h=>YwO (S54 h) (Yaa (i:=146) rfl (by kernel_rfl) (by decide) (by kernel_rfl))
theorem S56:GY fs56:=fun h=>YwV (S55 h) (Yaa (i:=140) rfl (by kernel_rfl) (by decide) (by kernel_rfl))
theorem S57:GY fs57:=fun h=>YwW (S56 h) trivial
theorem S58:GY fs58:=fun h=>YwX (S57 h) trivial
theorem S59:GY fs59:=fun h=>YwY (S58 h) trivial
theorem S60:GY fs60:=fun h=>YwZ (S59 h) trivial
theorem S61:GY fs61:=fun h=>Yw0 (S60 h) trivial
theorem S62:GY fs62:=fun h=>Yw1 (S61 h) trivial
theorem S63:GY fs63:=fun h=>Yw2 (S62 h) trivial
theorem S64:GY fs64:=fun h=>Yxd (S63 h) (Yaa (i:=114) rfl (by kernel_rfl) (by decide) (by kernel_rfl))
theorem S65:GY fs65:=fun h=>Yxf (S64 h) (Yaa (i:=70) rfl (by kernel_rfl) (by decide) (by kernel_rfl))
theorem YHa: ∀f,fm f=271->YC9 Tryz.prog f=true/\ ∃ρ:Go.Shelf.Ren,Go.Proofs.Lays.n190 Tryz.prog ρ/\ρ.f 190=f:=fun f h=>by
  have:=YFG (i:=70) (by kernel_rfl) (by decide) h;subst this
  exact⟨by kernel_rfl,_,Tryz.lays190,by kernel_rfl⟩
theorem S66:GY fs66:=fun h=>Yxh (S65 h) (YHa)
theorem S67:GY fs67:=fun h=>Yxo (S66 h) (Yaa (i:=20) rfl (by kernel_rfl) (by decide) (by kernel_rfl))
theorem S68:GY fs68:=fun h=>Yxt (S67 h) (Yaa (i:=94) rfl (by kernel_rfl) (by decide) (by kernel_rfl))
theorem S69:GY fs69:=fun h=>Yxy (S68 h) (Yaa (i:=94) rfl (by kernel_rfl) (by decide) (by kernel_rfl))
theorem S70:GY fs70:=fun h=>YxA (S69 h) (Yaa (i:=97) rfl (by kernel_rfl) (by decide) (by kernel_rfl))
theorem S71:GY fs71:=fun h=>YxC (S70 h) (Yaa (i:=96) rfl (by kernel_rfl) (by decide) (by kernel_rfl))
theorem S72:GY fs72:=fun h=>YxJ (S71 h) (Yaa (i:=113) rfl (by kernel_rfl) (by decide) (by kernel_rfl))
theorem S73:GY fs73:=fun h=>YxQ (S72 h) (Yaa (i:=69) rfl (by kernel_rfl) (by decide) (by kernel_rfl))
theorem S74:GY fs74:=fun h=>YxS (S73 h) (Yaa (i:=42) rfl (by kernel_rfl) (by decide) (by kernel_rfl))
theorem S75:GY fs75:=fun h=>YxU (S74 h) (Yaa (i:=119) rfl (by kernel_rfl) (by decide) (by kernel_rfl))
theorem S76:GY fs76:=fun h=>YxZ (S75 h) (Yaa (i:=101) rfl (by kernel_rfl) (by decide) (by kernel_rfl))
theorem S77:GY fs77:=fun h=>Yx1 (S76 h) (Yaa (i:=50) rfl (by kernel_rfl) (by decide) (by kernel_rfl))
theorem S78:GY fs78:=fun h=>Yx6 (S77 h) (Yaa (i:=76) rfl (by kernel_rfl) (by decide) (by kernel_rfl))
theorem S79:GY fs79:=fun h=>Yx8 (S78 h) (Yaa (i:=84) rfl (by kernel_rfl) (by decide) (by kernel_rfl))
theorem S80:GY fs80:=fun h=>Yya (S79 h) (Yaa (i:=85) rfl (by kernel_rfl) (by decide) (by kernel_rfl))
theorem YHb: ∀f,fm f=548->YC9 Tryz.prog f=true/\ ∃ρ:Go.Shelf.Ren,Go.Proofs.Lays8.n4 Tryz.prog ρ/\ρ.f 4=f/\YEh Tryz.prog (ρ.t 25) 2=true:=fun f h=>by
  have:=YFG (i:=122) (by kernel_rfl) (by decide) h;subst this
  exact⟨by kernel_rfl,_,Tryz.lays8_4,by kernel_rfl,by kernel_rfl⟩
theorem S81:GY fs81:=fun h=>Yyc (S80 h) (YHb)
theorem S82:GY fs82:=fun h=>Yyj (S81 h) (Yaa (i:=86) rfl (by kernel_rfl) (by decide) (by kernel_rfl))
theorem S83:GY fs83:=fun h=>Yyq (S82 h) (Yaa (i:=120) rfl (by kernel_rfl) (by decide) (by kernel_rfl))
theorem S84:GY fs84:=fun h=>Yyx (S83 h) (Yaa (i:=77) rfl (by kernel_rfl) (by decide) (by kernel_rfl))
theorem S85:GY fs85:=fun h=>YyE (S84 h) (Yaa (i:=78) rfl (by kernel_rfl) (by decide) (by kernel_rfl))
theorem S86:GY fs86:=fun h=>YyL (S85 h) (Yaa (i:=23) rfl (by kernel_rfl) (by decide) (by kernel_rfl))
theorem S87:GY fs87:=fun h=>YyN (S86 h) (Yaa (i:=26) rfl (by kernel_rfl) (by decide) (by kernel_rfl))
theorem S88:GY fs88:=fun h=>YyU (S87 h) (Yaa (i:=28) rfl (by kernel_rfl) (by decide) (by kernel_rfl))
theorem S89:GY fs89:=fun h=>YyW (S88 h) (Yaa (i:=169) rfl (by kernel_rfl) (by decide) (by kernel_rfl))
theorem S90:GY fs90:=S89
theorem S91:GY fs91:=S90
theorem S92:GY fs92:=fun h=>YyY (S91 h) (Yaa (i:=152) rfl (by kernel_rfl) (by decide) (by kernel_rfl))
theorem S93:GY fs93:=fun h=>Yy0 (S92 h) (Yaa (i:=124) rfl (by kernel_rfl) (by decide) (by kernel_rfl))
theorem S94:GY fs94:=fun h=>Yy5 (S93 h) (Yaa (i:=125) rfl (by kernel_rfl) (by decide) (by kernel_rfl))
theorem S95:GY fs95:=fun h=>Yy7 (S94 h) (Yaa (i:=90) rfl (by kernel_rfl) (by decide) (by kernel_rfl))
theorem YHc: ∀f,fm f=169->YC9 Tryz.prog f=true/\ ∃ρ:Go.Shelf.Ren,Go.Proofs.Lays.n156 Tryz.prog ρ/\Go.Proofs.Builder.Extra Tryz.prog ρ/\ρ.f 156=f:=fun f h=>by
  have:=YFG (i:=91) (by kernel_rfl) (by decide) h;subst this
  exact⟨by kernel_rfl,_,Tryz.lays156,Tryz.bextra,by kernel_rfl⟩
theorem S96:GY fs96:=fun h=>Yy9 (S95 h) (YHc)
theorem S97:GY fs97:=fun h=>Yzg (S96 h) (Yaa (i:=33) rfl (by kernel_rfl) (by decide) (by kernel_rfl))
theorem S98:GY fs98:=fun h=>Yzl (S97 h) (Yaa (i:=98) rfl (by kernel_rfl) (by decide) (by kernel_rfl))
theorem S99:GY fs99:=fun h=>Yzq (S98 h) (Yaa (i:=44) rfl (by kernel_rfl) (by decide) (by kernel_rfl))
theorem S100:GY YGA:=fun h=>Yzs (S99 h) (Yaa (i:=13) rfl (by kernel_rfl) (by decide) (by kernel_rfl))
theorem S101:GY YGQ:=S100
theorem S102:GY YGB:=S101
theorem S103:GY YFn:=fun h=>Yzu (S102 h) (Yaa (i:=123) rfl (by kernel_rfl) (by decide) (by kernel_rfl))
theorem S104:GY YFo:=fun h=>Yzz (S103 h) (Yaa (i:=89) rfl (by kernel_rfl) (by decide) (by kernel_rfl))
theorem S105:GY YFp:=fun h=>YzE (S104 h) (Yaa (i:=62) rfl (by kernel_rfl) (by decide) (by kernel_rfl))
theorem S106:GY YFU:=fun h=>YzJ (S105 h) (Yaa (i:=136) rfl (by kernel_rfl) (by decide) (by kernel_rfl))
theorem S107:GY YFq:=fun h=>YzL (S106 h) (Yaa (i:=138) rfl (by kernel_rfl) (by decide) (by kernel_rfl))
theorem S108:GY YFr:=fun h=>YzQ (S107 h) (Yaa (i:=137) rfl (by kernel_rfl) (by decide) (by kernel_rfl))
theorem S109:GY YFs:=fun h=>YzV (S108 h) (Yaa (i:=108) rfl (by kernel_rfl) (by decide) (by kernel_rfl))
theorem S110:GY YFt:=fun h=>Yz0 (S109 h) (Yaa (i:=55) rfl (by kernel_rfl) (by decide) (by kernel_rfl))
theorem S111:GY YFV:=fun h=>Yz5 (S110 h) (Yaa (i:=54) rfl (by kernel_rfl) (by decide) (by kernel_rfl))
theorem S112:GY YFu:=fun h=>Yz7 (S111 h) (Yaa (i:=109) rfl (by kernel_rfl) (by decide) (by kernel_rfl))
theorem S113:GY YE3:=fun h=>YAc (S112 h) (Yaa (i:=56) rfl (by kernel_rfl) (by decide) (by kernel_rfl))
theorem S114:GY YFv:=fun h=>YAj (S113 h) (Yaa (i:=61) rfl (by kernel_rfl) (by decide) (by kernel_rfl))
theorem S115:GY YFw:=fun h=>YAo (S114 h) (Yaa (i:=57) rfl (by kernel_rfl) (by decide) (by kernel_rfl))
theorem S116:GY YGC:=fun h=>YAt (S115 h) (Yaa (i:=17) rfl (by kernel_rfl) (by decide) (by kernel_rfl))
theorem S117:GY YGD:=S116
theorem S118:GY YE4:=fun h=>YAv (S117 h) (Yaa (i:=60) rfl (by kernel_rfl) (by decide) (by kernel_rfl))
theorem S119:GY YFW:=fun h=>YAC (S118 h) (Yaa (i:=110) rfl (by kernel_rfl) (by decide) (by kernel_rfl))
theorem S120:GY YFx:=fun h=>YAE (S119 h) (Yaa (i:=58) rfl (by kernel_rfl) (by decide) (by kernel_rfl))
theorem S121:GY YFX:=fun h=>YAJ (S120 h) (Yaa (i:=18) rfl (by kernel_rfl) (by decide) (by kernel_rfl))
theorem S122:GY YEK:=fun h=>YAL (S121 h) (Yaa (i:=59) rfl (by kernel_rfl) (by decide) (by kernel_rfl))
theorem S123:GY YFy:=fun h=>YAW (S122 h) (Yaa (i:=19) rfl (by kernel_rfl) (by decide) (by kernel_rfl))
theorem S124:GY YFY:=fun h=>YA1 (S123 h) (Yaa (i:=116) rfl (by kernel_rfl) (by decide) (by kernel_rfl))
theorem S125:GY YFz:=fun h=>YA3 (S124 h) (Yaa (i:=118) rfl (by kernel_rfl) (by decide) (by kernel_rfl))
theorem S126:GY YFZ:=fun h=>YA8 (S125 h) (Yaa (i:=151) rfl (by kernel_rfl) (by decide) (by kernel_rfl))
theorem S127:GY YF0:=fun h=>YBa (S126 h) (Yaa (i:=117) rfl (by kernel_rfl) (by decide) (by kernel_rfl))
theorem S128:GY YF1:=fun h=>YBc (S127 h) (Yaa (i:=81) rfl (by kernel_rfl) (by decide) (by kernel_rfl))
theorem S129:GY YFA:=fun h=>YBe (S128 h) (Yaa (i:=121) rfl (by kernel_rfl) (by decide) (by kernel_rfl))
theorem S130:GY YFB:=fun h=>YBj (S129 h) (Yaa (i:=83) rfl (by kernel_rfl) (by decide) (by kernel_rfl))
theorem S131:GY YF2:=fun h=>YBn (S130 h) (Yaa (i:=71) rfl (by kernel_rfl) (by decide) (by kernel_rfl))
theorem S132:GY YFC:=fun h=>YBp (S131 h) (Yaa (i:=82) rfl (by kernel_rfl) (by decide) (by kernel_rfl))
theorem S133:GY YFD:=fun h=>YBu (S132 h) (Yaa (i:=72) rfl (by kernel_rfl) (by decide) (by kernel_rfl))
theorem S134:GY YF3:=fun h=>YBz (S133 h) (Yaa (i:=74) rfl (by kernel_rfl) (by decide) (by kernel_rfl))
theorem S135:GY YFE:=fun h=>YBB (S134 h) (Yaa (i:=75) rfl (by kernel_rfl) (by decide) (by kernel_rfl))
theorem S136:GY YE5:=fun h=>YBG (S135 h) (Yaa (i:=73) rfl (by kernel_rfl) (by decide) (by kernel_rfl))
theorem S137:GY YFF:=fun h=>YBN (S136 h) (Yaa (i:=21) rfl (by kernel_rfl) (by decide) (by kernel_rfl))
theorem S138:GY YF4:=fun h=>YBS (S137 h) (Yaa (i:=22) rfl (by kernel_rfl) (by decide) (by kernel_rfl))
theorem S139:GY YGR:=fun h=>YBU (S138 h) (Yaa (i:=4) rfl (by kernel_rfl) (by decide) (by kernel_rfl))
end Go.Abs.G47
