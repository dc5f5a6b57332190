/- The functions of this seat's program are those of the texts: each is compared by the kernel. No condition. -/
import Derived.Test.YtlmcnindhfbkhaaGreatDoorG1
import Derived.Test.YtlmcnindhfbkhaaGreatDoorB
import Derived.Test.YtlmcnindhfbkhaaGreatDoorL
import Derived.Test.YtlmcnindhfbkhaaGreatDoorChecked
set_option linter.unusedVariables false
set_option linter.unusedSimpArgs false
set_option linter.unusedSectionVars false
namespace Go.Abs.G47
open Go Go.Abs Go.Proofs
def fmL:List Nat:=[0,0,1075,459,460,461,462,463,464,465,466,467,468,469,470,471,472,473,474,475,476,477,478,479,480,481,482,483,484,485,486,487,488,489,490,491,492,282,493,355,494,308,495,496,346,497,498,499,500,501,502,503,504,505,506,507,508,509,239,510,251,511,272,512,513,514,296,149,151,515,271,516,517,518,274,297,519,520,521,522,523,524,525,526,269,527,528,529,265,258,530,169,531,290,532,533,534,245,351,535,536,537,538,283,256,539,540,541,231,542,275,310,164,543,301,163,544,302,303,545,546,547,548,295,549,550,188,551,230,552,553,554,555,556,173,557,259,260,284,0,311,312,313,314,315,316,317,318,319,186,187,320,1081,200,153,558,255,257,559,560,426,561,434,322,195,196,323,324,325,1082,1083,1084,1085,0,293,294,442,448,327,1090,1091,1092,209,309,212,213,0,0,0,0,0,0,0,0,0,0,0,0,214,0,0,215,216,0,0,0,0,0,0,1098]
def fm:FM:={f:=fmOf fmL,own:=[("value.go:49",6),("value.go:141",12)],dat:=[("ref.go:162",66),("query.go:316",30),("query.go:221",8)],mks:=["query.go:221", "query.go:316"],bt:=120,bu:=5}
theorem mixed:Tryz.prog.follows .mixedOrders=true:=by kernel_rfl
abbrev GY(fs:Lo->List FnE):Prop:= ∀{lo:Lo},LoOK lo->GZ Tryz.prog fm fs lo
theorem S0:GY fs0:=fun h=>⟨h,mixed,Yqh Tryz.prog fm pf []⟩
theorem S1:GY fs1:=fun h=>Yrl (S0 h) (Yaa (i:=46) rfl (by kernel_rfl) (by decide) (by kernel_rfl))
theorem S2:GY fs2:=fun h=>Yrq (S1 h) (Yaa (i:=45) rfl (by kernel_rfl) (by decide) (by kernel_rfl))
theorem S3:GY fs3:=fun h=>Yrs (S2 h) (Yaa (i:=47) rfl (by kernel_rfl) (by decide) (by kernel_rfl))
theorem S4:GY fs4:=fun h=>Yrx (S3 h) (Yaa (i:=156) rfl (by kernel_rfl) (by decide) (by kernel_rfl))
theorem S5:GY fs5:=fun h=>YrC (S4 h) (Yaa (i:=134) rfl (by kernel_rfl) (by decide) (by kernel_rfl))
theorem S6:GY fs6:=fun h=>YrE (S5 h) (Yaa (i:=104) rfl (by kernel_rfl) (by decide) (by kernel_rfl))
theorem S7:GY fs7:=fun h=>YrG (S6 h) (Yaa (i:=103) rfl (by kernel_rfl) (by decide) (by kernel_rfl))
theorem S8:GY fs8:=fun h=>YrI (S7 h) (Yaa (i:=175) rfl (by kernel_rfl) (by decide) (by kernel_rfl))
theorem S9:GY fs9:=fun h=>YrN (S8 h) (Yaa (i:=183) rfl (by kernel_rfl) (by decide) (by kernel_rfl))
theorem S10:GY fs10:=fun h=>YrP (S9 h) (Yaa (i:=174) rfl (by kernel_rfl) (by decide) (by kernel_rfl))
theorem S11:GY fs11:=fun h=>YrR (S10 h) (Yaa (i:=157) rfl (by kernel_rfl) (by decide) (by kernel_rfl))
theorem S12:GY fs12:=fun h=>YrY (S11 h) (Yaa (i:=128) rfl (by kernel_rfl) (by decide) (by kernel_rfl))
theorem S13:GY fs13:=fun h=>Yr0 (S12 h) (Yaa (i:=159) rfl (by kernel_rfl) (by decide) (by kernel_rfl))
theorem S14:GY fs14:=fun h=>Yr5 (S13 h) (Yaa (i:=158) rfl (by kernel_rfl) (by decide) (by kernel_rfl))
theorem S15:GY fs15:=fun h=>Yr7 (S14 h) (Yaa (i:=129) rfl (by kernel_rfl) (by decide) (by kernel_rfl))
theorem S16:GY fs16:=fun h=>Ysc (S15 h) (Yaa (i:=99) rfl (by kernel_rfl) (by decide) (by kernel_rfl))
theorem S17:GY fs17:=fun h=>Yse (S16 h) (Yaa (i:=161) rfl (by kernel_rfl) (by decide) (by kernel_rfl))
theorem S18:GY fs18:=fun h=>Ysj (S17 h) (Yaa (i:=176) rfl (by kernel_rfl) (by decide) (by kernel_rfl))
theorem S19:GY fs19:=fun h=>Ysl (S18 h) (Yaa (i:=160) rfl (by kernel_rfl) (by decide) (by kernel_rfl))
theorem S20:GY fs20:=fun h=>Ysn (S19 h) (Yaa (i:=130) rfl (by kernel_rfl) (by decide) (by kernel_rfl))
theorem S21:GY fs21:=fun h=>Yss (S20 h) (Yaa (i:=177) rfl (by kernel_rfl) (by decide) (by kernel_rfl))
theorem S22:GY fs22:=fun h=>Ysu (S21 h) (Yaa (i:=162) rfl (by kernel_rfl) (by decide) (by kernel_rfl))
theorem S23:GY fs23:=fun h=>Ysz (S22 h) (Yaa (i:=131) rfl (by kernel_rfl) (by decide) (by kernel_rfl))
theorem S24:GY fs24:=fun h=>YsB (S23 h) (Yaa (i:=100) rfl (by kernel_rfl) (by decide) (by kernel_rfl))
theorem S25:GY fs25:=fun h=>YsD (S24 h) (Yaa (i:=48) rfl (by kernel_rfl) (by decide) (by kernel_rfl))
theorem S26:GY fs26:=fun h=>YsI (S25 h) (Yaa (i:=49) rfl (by kernel_rfl) (by decide) (by kernel_rfl))
theorem S27:GY fs27:=fun h=>YsK (S26 h) (Yaa (i:=132) rfl (by kernel_rfl) (by decide) (by kernel_rfl))
theorem S28:GY fs28:=fun h=>YsM (S27 h) (Yaa (i:=133) rfl (by kernel_rfl) (by decide) (by kernel_rfl))
theorem S29:GY fs29:=fun h=>YsR (S28 h) (Yaa (i:=102) rfl (by kernel_rfl) (by decide) (by kernel_rfl))
theorem S30:GY fs30:=fun h=>YsT (S29 h) (Yaa (i:=52) rfl (by kernel_rfl) (by decide) (by kernel_rfl))
theorem S31:GY fs31:=fun h=>YsV (S30 h) (Yaa (i:=51) rfl (by kernel_rfl) (by decide) (by kernel_rfl))
theorem S32:GY fs32:=fun h=>Ys0 (S31 h) (Yaa (i:=101) rfl (by kernel_rfl) (by decide) (by kernel_rfl))
theorem S33:GY fs33:=fun h=>Ys2 (S32 h) (Yaa (i:=50) rfl (by kernel_rfl) (by decide) (by kernel_rfl))
theorem S34:GY fs34:=fun h=>Ys4 (S33 h) (Yaa (i:=107) rfl (by kernel_rfl) (by decide) (by kernel_rfl))
theorem S35:GY fs35:=fun h=>Ys9 (S34 h) (Yaa (i:=101) rfl (by kernel_rfl) (by decide) (by kernel_rfl))
theorem S36:GY fs36:=fun h=>Ytb (S35 h) (Yaa (i:=50) rfl (by kernel_rfl) (by decide) (by kernel_rfl))
theorem S37:GY fs37:=fun h=>Ytd (S36 h) (Yaa (i:=106) rfl (by kernel_rfl) (by decide) (by kernel_rfl))
theorem S38:GY fs38:=fun h=>Yti (S37 h) (Yaa (i:=135) rfl (by kernel_rfl) (by decide) (by kernel_rfl))
theorem S39:GY fs39:=fun h=>Ytk (S38 h) (Yaa (i:=105) rfl (by kernel_rfl) (by decide) (by kernel_rfl))
theorem S40:GY fs40:=fun h=>Ytp (S39 h) (Yaa (i:=53) rfl (by kernel_rfl) (by decide) (by kernel_rfl))
theorem S41:GY fs41:=fun h=>Ytu (S40 h) (Yaa (i:=16) rfl (by kernel_rfl) (by decide) (by kernel_rfl))
theorem S42:GY fs42:=fun h=>Ytz (S41 h) (Yaa (i:=63) rfl (by kernel_rfl) (by decide) (by kernel_rfl))
theorem S43:GY fs43:=fun h=>YtE (S42 h) (Yaa (i:=65) rfl (by kernel_rfl) (by decide) (by kernel_rfl))
theorem S44:GY fs44:=fun h=>YtJ (S43 h) (Yaa (i:=111) rfl (by kernel_rfl) (by decide) (by kernel_rfl))
theorem S45:GY fs45:=fun h=>YtQ (S44 h) (Yaa (i:=66) rfl (by kernel_rfl) (by decide) (by kernel_rfl))
theorem YA9{g i f:Nat}(h:Yz6 g fmL i 0=true)(hg:g≠0)(hf:fm f=g):f=i:=Yjv h hg hf
theorem YBZ:BldOK Tryz.prog fm Tryz.lays156_ren:=⟨Tryz.bextra,by kernel_rfl⟩
theorem YB7: ∀f,fm f=164->YyP Tryz.prog f=true/\ ∃ρ:Go.Shelf.Ren,Go.Proofs.Lays.n240 Tryz.prog ρ/\BldOK Tryz.prog fm ρ/\ρ.f 240=f:=fun f h=>by
  have:=YA9 (i:=112) (by kernel_rfl) (by decide) h;subst this
  exact⟨by kernel_rfl,_,Tryz.lays240',YBZ,by kernel_rfl⟩
theorem S46:GY fs46:=fun h=>YtS (S45 h) (YB7)
theorem S47:GY fs47:=fun h=>YtU (S46 h) (Yaa (i:=67) rfl (by kernel_rfl) (by decide) (by kernel_rfl))
theorem YB8: ∀f,fm f=151->YyP Tryz.prog f=true/\ ∃ρ:Go.Shelf.Ren,Go.Proofs.Lays.n169 Tryz.prog ρ/\BldOK Tryz.prog fm ρ/\fm.bu=ρ.t 5/\ρ.f 169=f:=fun f h=>by
  have:=YA9 (i:=68) (by kernel_rfl) (by decide) h;subst this
  exact⟨by kernel_rfl,_,Tryz.lays169',YBZ,by kernel_rfl,by kernel_rfl⟩
theorem S48:GY fs48:=fun h=>YtW (S47 h) (YB8)
theorem S49:GY fs49:=fun h=>Yt1 (S48 h) (Yaa (i:=64) rfl (by kernel_rfl) (by decide) (by kernel_rfl))
theorem S50:GY fs50:=fun h=>Yt8 (S49 h) (Yaa (i:=113) rfl (by kernel_rfl) (by decide) (by kernel_rfl))
theorem S51:GY fs51:=fun h=>Yuf (S50 h) (Yaa (i:=69) rfl (by kernel_rfl) (by decide) (by kernel_rfl))
theorem S52:GY fs52:=fun h=>Yuk (S51 h) (Yaa (i:=150) rfl (by kernel_rfl) (by decide) (by kernel_rfl))
theorem S53:GY fs53:=fun h=>Yum (S52 h) (Yaa (i:=115) rfl (by kernel_rfl) (by decide) (by kernel_rfl))
theorem S54:GY fs54:=fun h=>Yuo (S53 h) (Yaa (i:=168) rfl (by kernel_rfl) (by decide) (by kernel_rfl))
theorem S55:GY fs55:=fun h=>Yuq (S54 h) (Yaa (i:=146) rfl (by kernel_rfl) (by decide) (by kernel_rfl))
theorem S56:GY fs56:=fun h=>Yux (S55 h) (Yaa (i:=140) rfl (by kernel_rfl) (by decide) (by kernel_rfl))
theorem S57:GY fs57:=fun h=>Yuy (S56 h) trivial
theorem S58:GY fs58:=fun h=>Yuz (S57 h) trivial
theorem S59:GY fs59:=fun h=>YuA (S58 h) trivial
theorem S60:GY fs60:=fun h=>YuB (S59 h) trivial
theorem S61:GY fs61:=fun h=>YuC (S60 h) trivial
theorem S62:GY fs62:=fun h=>YuD (S61 h) trivial
theorem S63:GY fs63:=fun h=>YuE (S62 h) trivial
theorem S64:GY fs64:=fun h=>YuP (S63 h) (Yaa (i:=114) rfl (by kernel_rfl) (by decide) (by kernel_rfl))
theorem S65:GY fs65:=fun h=>YuR (S64 h) (Yaa (i:=70) rfl (by kernel_rfl) (by decide) (by kernel_rfl))
theorem YB9: ∀f,fm f=271->YyP Tryz.prog f=true/\ ∃ρ:Go.Shelf.Ren,Go.Proofs.Lays.n190 Tryz.prog ρ/\ρ.f 190=f:=fun f h=>by
  have:=YA9 (i:=70) (by kernel_rfl) (by decide) h;subst this
  exact⟨by kernel_rfl,_,Tryz.lays190,by kernel_rfl⟩
theorem S66:GY fs66:=fun h=>YuT (S65 h) (YB9)
theorem S67:GY fs67:=fun h=>Yu0 (S66 h) (Yaa (i:=20) rfl (by kernel_rfl) (by decide) (by kernel_rfl))
theorem S68:GY fs68:=fun h=>Yu5 (S67 h) (Yaa (i:=94) rfl (by kernel_rfl) (by decide) (by kernel_rfl))
theorem S69:GY fs69:=fun h=>Yva (S68 h) (Yaa (i:=94) rfl (by kernel_rfl) (by decide) (by kernel_rfl))
theorem S70:GY fs70:=fun h=>Yvc (S69 h) (Yaa (i:=97) rfl (by kernel_rfl) (by decide) (by kernel_rfl))
theorem S71:GY fs71:=fun h=>Yve (S70 h) (Yaa (i:=96) rfl (by kernel_rfl) (by decide) (by kernel_rfl))
theorem S72:GY fs72:=fun h=>Yvl (S71 h) (Yaa (i:=113) rfl (by kernel_rfl) (by decide) (by kernel_rfl))
theorem S73:GY fs73:=fun h=>Yvs (S72 h) (Yaa (i:=69) rfl (by kernel_rfl) (by decide) (by kernel_rfl))
theorem S74:GY fs74:=fun h=>Yvu (S73 h) (Yaa (i:=42) rfl (by kernel_rfl) (by decide) (by kernel_rfl))
theorem S75:GY fs75:=fun h=>Yvw (S74 h) (Yaa (i:=119) rfl (by kernel_rfl) (by decide) (by kernel_rfl))
theorem S76:GY fs76:=fun h=>YvB (S75 h) (Yaa (i:=101) rfl (by kernel_rfl) (by decide) (by kernel_rfl))
theorem S77:GY fs77:=fun h=>YvD (S76 h) (Yaa (i:=50) rfl (by kernel_rfl) (by decide) (by kernel_rfl))
theorem S78:GY fs78:=fun h=>YvI (S77 h) (Yaa (i:=76) rfl (by kernel_rfl) (by decide) (by kernel_rfl))
theorem S79:GY fs79:=fun h=>YvK (S78 h) (Yaa (i:=84) rfl (by kernel_rfl) (by decide) (by kernel_rfl))
theorem S80:GY fs80:=fun h=>YvM (S79 h) (Yaa (i:=85) rfl (by kernel_rfl) (by decide) (by kernel_rfl))
theorem YCa: ∀f,fm f=548->YyP Tryz.prog f=true/\ ∃ρ:Go.Shelf.Ren,Go.Proofs.Lays8.n4 Tryz.prog ρ/\ρ.f 4=f/\YzZ Tryz.prog (ρ.t 25) 2=true:=fun f h=>by
  have:=YA9 (i:=122) (by kernel_rfl) (by decide) h;subst this
  exact⟨by kernel_rfl,_,Tryz.lays8_4,by kernel_rfl,by kernel_rfl⟩
theorem S81:GY fs81:=fun h=>YvO (S80 h) (YCa)
theorem S82:GY fs82:=fun h=>YvV (S81 h) (Yaa (i:=86) rfl (by kernel_rfl) (by decide) (by kernel_rfl))
theorem S83:GY fs83:=fun h=>Yv2 (S82 h) (Yaa (i:=120) rfl (by kernel_rfl) (by decide) (by kernel_rfl))
theorem S84:GY fs84:=fun h=>Yv9 (S83 h) (Yaa (i:=77) rfl (by kernel_rfl) (by decide) (by kernel_rfl))
theorem S85:GY fs85:=fun h=>Ywg (S84 h) (Yaa (i:=78) rfl (by kernel_rfl) (by decide) (by kernel_rfl))
theorem S86:GY fs86:=fun h=>Ywn (S85 h) (Yaa (i:=23) rfl (by kernel_rfl) (by decide) (by kernel_rfl))
theorem S87:GY fs87:=fun h=>Ywp (S86 h) (Yaa (i:=26) rfl (by kernel_rfl) (by decide) (by kernel_rfl))
theorem S88:GY fs88:=fun h=>Yww (S87 h) (Yaa (i:=28) rfl (by kernel_rfl) (by decide) (by kernel_rfl))
theorem S89:GY fs89:=fun h=>Ywy (S88 h) (Yaa (i:=169) rfl (by kernel_rfl) (by decide) (by kernel_rfl))
theorem S90:GY fs90:=S89
theorem S91:GY fs91:=S90
theorem S92:GY fs92:=fun h=>YwA (S91 h) (Yaa (i:=152) rfl (by kernel_rfl) (by decide) (by kernel_rfl))
theorem S93:GY fs93:=fun h=>YwC (S92 h) (Yaa (i:=124) rfl (by kernel_rfl) (by decide) (by kernel_rfl))
theorem S94:GY fs94:=fun h=>YwH (S93 h) (Yaa (i:=125) rfl (by kernel_rfl) (by decide) (by kernel_rfl))
theorem S95:GY fs95:=fun h=>YwJ (S94 h) (Yaa (i:=90) rfl (by kernel_rfl) (by decide) (by kernel_rfl))
theorem YCb: ∀f,fm f=169->YyP Tryz.prog f=true/\ ∃ρ:Go.Shelf.Ren,Go.Proofs.Lays.n156 Tryz.prog ρ/\Go.Proofs.Builder.Extra Tryz.prog ρ/\ρ.f 156=f:=fun f h=>by
  have:=YA9 (i:=91) (by kernel_rfl) (by decide) h;subst this
  exact⟨by kernel_rfl,_,Tryz.lays156,Tryz.bextra,by kernel_rfl⟩
theorem S96:GY fs96:=fun h=>YwL (S95 h) (YCb)
theorem S97:GY fs97:=fun h=>YwS (S96 h) (Yaa (i:=33) rfl (by kernel_rfl) (by decide) (by kernel_rfl))
theorem S98:GY fs98:=fun h=>YwX (S97 h) (Yaa (i:=98) rfl (by kernel_rfl) (by decide) (by kernel_rfl))
theorem S99:GY fs99:=fun h=>Yw2 (S98 h) (Yaa (i:=44) rfl (by kernel_rfl) (by decide) (by kernel_rfl))
theorem S100:GY YAX:=fun h=>Yw4 (S99 h) (Yaa (i:=13) rfl (by kernel_rfl) (by decide) (by kernel_rfl))
theorem S101:GY YAY:=fun h=>Yw9 (S100 h) (Yaa (i:=14) rfl (by kernel_rfl) (by decide) (by kernel_rfl))
theorem S102:GY YBk:=fun h=>Yxe (S101 h) (Yaa (i:=15) rfl (by kernel_rfl) (by decide) (by kernel_rfl))
theorem S103:GY YAZ:=fun h=>Yxg (S102 h) (Yaa (i:=123) rfl (by kernel_rfl) (by decide) (by kernel_rfl))
theorem S104:GY YA0:=fun h=>Yxl (S103 h) (Yaa (i:=89) rfl (by kernel_rfl) (by decide) (by kernel_rfl))
theorem S105:GY YA1:=fun h=>Yxq (S104 h) (Yaa (i:=62) rfl (by kernel_rfl) (by decide) (by kernel_rfl))
theorem S106:GY YBl:=fun h=>Yxv (S105 h) (Yaa (i:=136) rfl (by kernel_rfl) (by decide) (by kernel_rfl))
theorem S107:GY YA2:=fun h=>Yxx (S106 h) (Yaa (i:=138) rfl (by kernel_rfl) (by decide) (by kernel_rfl))
theorem S108:GY YA3:=fun h=>YxC (S107 h) (Yaa (i:=137) rfl (by kernel_rfl) (by decide) (by kernel_rfl))
theorem S109:GY YA4:=fun h=>YxH (S108 h) (Yaa (i:=108) rfl (by kernel_rfl) (by decide) (by kernel_rfl))
theorem S110:GY YA5:=fun h=>YxM (S109 h) (Yaa (i:=55) rfl (by kernel_rfl) (by decide) (by kernel_rfl))
theorem S111:GY YBm:=fun h=>YxR (S110 h) (Yaa (i:=54) rfl (by kernel_rfl) (by decide) (by kernel_rfl))
theorem S112:GY YA6:=fun h=>YxT (S111 h) (Yaa (i:=109) rfl (by kernel_rfl) (by decide) (by kernel_rfl))
theorem S113:GY YAE:=fun h=>YxY (S112 h) (Yaa (i:=56) rfl (by kernel_rfl) (by decide) (by kernel_rfl))
theorem S114:GY YA7:=fun h=>Yx5 (S113 h) (Yaa (i:=61) rfl (by kernel_rfl) (by decide) (by kernel_rfl))
theorem S115:GY YA8:=fun h=>Yya (S114 h) (Yaa (i:=57) rfl (by kernel_rfl) (by decide) (by kernel_rfl))
theorem S116:GY YBn:=fun h=>Yyf (S115 h) (Yaa (i:=17) rfl (by kernel_rfl) (by decide) (by kernel_rfl))
theorem S117:GY YBY:=fun h=>Yyh (S116 h) (Yaa (i:=3) rfl (by kernel_rfl) (by decide) (by kernel_rfl))
end Go.Abs.G47
