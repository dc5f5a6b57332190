/- The functions of this seat's program are those of the texts: each is compared by the kernel. No condition. -/
import Derived.Test.YtppagmmeofoekaaGreatDoorG
import Derived.Test.YtppagmmeofoekaaGreatDoorB
import Derived.Test.YtppagmmeofoekaaGreatDoorL
import Derived.Test.YtppagmmeofoekaaGreatDoorD
import Derived.Test.YtppagmmeofoekaaGreatDoorChecked
set_option linter.unusedVariables false
set_option linter.unusedSimpArgs false
set_option linter.unusedSectionVars false
namespace Go.Abs.G12
open Go Go.Abs Go.Proofs
def fmL:List Nat:=[0,0,1075,106,107,109,110,125,126,127,128,120,129,131,111,116,114,113,149,150,151,152,153,154,155,123,156,157,132,133,137,138,139,140,141,112,164,165,166,167,168,169,170,171,172,173,174,175,176,158,160,161,134,135,0,1076,1077,188,189,190,191,192,1078,1079,193,1080,118,136,159,1081,1082,1083,1084,1085,200,201,1086,202,203,1087,204,205,206,207,1088,1089,1090,187,1091,1092,209,0,1093,0,1094,1095,210,0,1096,211,212,213,0,1097,0,0,0,0,0,0,0,0,0,0,0,0,214,0,0,215,216,0,217,218,0,0,0,0,0,0,0,0,0,0,1098]
def fm:FM:={f:=fmOf fmL,own:=[],dat:=[("ref.go:163",23)],mks:=[],bt:=50,bu:=5,tb:=[(0,fun c=>c=YuH),(3,fun c=> ∃m,c= #[.int .i64 m]),(4,YuX),(5,YuX)]}
theorem tbm0:(0,fun c=>c=YuH)∈fm.tb:=.head _
theorem tbm1:(3,fun c=> ∃m,c= #[.int .i64 m])∈fm.tb:=.tail _ (.head _)
theorem tbm2:(4,YuX)∈fm.tb:=.tail _ (.tail _ (.head _))
theorem tbm3:(5,YuX)∈fm.tb:=.tail _ (.tail _ (.tail _ (.head _)))
theorem mixed:Tryz.prog.follows .mixedOrders=true:=by kernel_rfl
abbrev GY(fs:Lo->List FnE):Prop:= ∀{lo:Lo},LoOK lo->GZ Tryz.prog fm fs lo
theorem S0:GY fs0:=fun h=>⟨h,mixed,Yo0 Tryz.prog fm pf []⟩
theorem S1:GY fs1:=fun h=>Yp3 (S0 h) (Yah (i:=66) rfl)
theorem S2:GY fs2:=S1
theorem S3:GY fs3:=S2
theorem S4:GY fs4:=fun h=>Yp5 (S3 h) (Yah (i:=13) rfl)
theorem S5:GY fs5:=fun h=>Yqa (S4 h) (Yah (i:=28) rfl)
theorem S6:GY fs6:=fun h=>Yqc (S5 h) (Yah (i:=31) rfl)
theorem S7:GY fs7:=fun h=>Yqe (S6 h) (Yah (i:=30) rfl)
theorem S8:GY fs8:=fun h=>Yqg (S7 h) (Yah (i:=49) rfl)
theorem S9:GY fs9:=fun h=>Yqi (S8 h) (Yah (i:=29) rfl)
theorem S10:GY fs10:=fun h=>Yqn (S9 h) (Yah (i:=14) rfl)
theorem S11:GY fs11:=fun h=>Yqu (S10 h) (Yah (i:=50) rfl)
theorem S12:GY fs12:=fun h=>Yqw (S11 h) (Yah (i:=32) rfl)
theorem S13:GY fs13:=fun h=>Yqy (S12 h) (Yah (i:=33) rfl)
theorem S14:GY fs14:=fun h=>YqD (S13 h) (Yah (i:=51) rfl)
theorem S15:GY fs15:=fun h=>YqI (S14 h) (Yah (i:=34) rfl)
theorem S16:GY fs16:=fun h=>YqK (S15 h) (Yah (i:=33) rfl)
theorem S17:GY fs17:=fun h=>YqM (S16 h) (Yah (i:=33) rfl)
theorem S18:GY fs18:=fun h=>YqR (S17 h) (Yah (i:=15) rfl)
theorem S19:GY fs19:=fun h=>YqT (S18 h) (Yah (i:=67) rfl)
theorem S20:GY fs20:=fun h=>YqY (S19 h) (Yah (i:=52) rfl)
theorem S21:GY fs21:=fun h=>Yq3 (S20 h) (Yah (i:=68) rfl)
theorem S22:GY fs22:=fun h=>Yq8 (S21 h) (Yah (i:=53) rfl)
theorem S23:GY fs23:=fun h=>Yrd (S22 h) (Yah (i:=35) rfl)
theorem S24:GY fs24:=fun h=>Yrf (S23 h) (Yah (i:=16) rfl)
theorem S25:GY fs25:=fun h=>Yrh (S24 h) (Yah (i:=17) rfl)
theorem Yvf{g i f:Nat}(h:Yu5 g fmL i 0=true)(hg:g≠0)(hf:fm f=g):f=i:=Yjz h hg hf
theorem S26:GY fs26:=fun h=>Yrj (S25 h) (fun f h=>by
  have:=Yvf (i:=37) (by kernel_rfl) (by decide) h;subst this
  exact⟨by kernel_rfl,_,Tryz.laysM171,⟨_,tbm0,fun _ h=>h⟩,by kernel_rfl⟩)
theorem S27:GY fs27:=fun h=>Yrl (S26 h) (Yah (i:=40) rfl)
theorem Yw2: ∀f,fm f=169->YtJ Tryz.prog f=true/\ ∃ρ:Go.Shelf.Ren,Go.Proofs.Lays.n156 Tryz.prog ρ/\Go.Proofs.Builder.Extra Tryz.prog ρ/\ρ.f 156=f:=fun f h=>by
  have:=Yvf (i:=41) (by kernel_rfl) (by decide) h;subst this
  exact⟨by kernel_rfl,_,Tryz.lays156,Tryz.bextra,by kernel_rfl⟩
theorem S28:GY fs28:=fun h=>Yrn (S27 h) (Yw2)
theorem S29:GY fs29:=fun h=>Yrp (S28 h) (fun f h=>by
  have:=Yvf (i:=39) (by kernel_rfl) (by decide) h;subst this
  exact⟨by kernel_rfl,Tryz.fu tbm0 (fun _ h=>h)⟩)
theorem S30:GY fs30:=fun h=>Yrr (S29 h) (Yah (i:=38) rfl)
theorem S31:GY fs31:=fun h=>Yry (S30 h) (Yah (i:=19) rfl)
theorem YwW:BldOK Tryz.prog fm Tryz.lays156_ren:=⟨Tryz.bextra,by kernel_rfl⟩
theorem Yw3: ∀f,fm f=164->YtJ Tryz.prog f=true/\ ∃ρ:Go.Shelf.Ren,Go.Proofs.Lays.n240 Tryz.prog ρ/\BldOK Tryz.prog fm ρ/\ρ.f 240=f:=fun f h=>by
  have:=Yvf (i:=36) (by kernel_rfl) (by decide) h;subst this
  exact⟨by kernel_rfl,_,Tryz.lays240',YwW,by kernel_rfl⟩
theorem S32:GY fs32:=fun h=>YrA (S31 h) (Yw3)
theorem S33:GY fs33:=fun h=>YrC (S32 h) (Yah (i:=18) rfl)
theorem Yw4: ∀f,fm f=151->YtJ Tryz.prog f=true/\ ∃ρ:Go.Shelf.Ren,Go.Proofs.Lays.n169 Tryz.prog ρ/\BldOK Tryz.prog fm ρ/\fm.bu=ρ.t 5/\ρ.f 169=f:=fun f h=>by
  have:=Yvf (i:=20) (by kernel_rfl) (by decide) h;subst this
  exact⟨by kernel_rfl,_,Tryz.lays169',YwW,by kernel_rfl,by kernel_rfl⟩
theorem S34:GY fs34:=fun h=>YrE (S33 h) (Yw4)
theorem S35:GY fs35:=fun h=>YrJ (S34 h) (Yah (i:=7) rfl)
theorem S36:GY fs36:=fun h=>YrL (S35 h) (Yah (i:=5) rfl)
theorem S37:GY fs37:=fun h=>YrQ (S36 h) (Yah (i:=6) rfl)
theorem S38:GY fs38:=S37
theorem S39:GY fs39:=S38
theorem S40:GY fs40:=S39
theorem S41:GY fs41:=S40
theorem S42:GY fs42:=S41
theorem S43:GY fs43:=S42
theorem S44:GY fs44:=S43
theorem S45:GY fs45:=S44
theorem S46:GY fs46:=S45
theorem S47:GY fs47:=S46
theorem S48:GY fs48:=S47
theorem S49:GY fs49:=S48
theorem S50:GY fs50:=S49
theorem S51:GY fs51:=S50
theorem S52:GY fs52:=S51
theorem S53:GY fs53:=S52
theorem S54:GY fs54:=S53
theorem S55:GY fs55:=S54
theorem S56:GY fs56:=S55
theorem S57:GY fs57:=S56
theorem S58:GY fs58:=S57
theorem S59:GY fs59:=S58
theorem S60:GY fs60:=S59
theorem S61:GY fs61:=S60
theorem S62:GY fs62:=S61
theorem S63:GY fs63:=S62
theorem S64:GY fs64:=S63
theorem S65:GY fs65:=fun h=>YrV (S64 h) (Yah (i:=25) rfl)
theorem S66:GY fs66:=S65
theorem S67:GY fs67:=fun h=>YrX (S66 h) (Yah (i:=21) rfl)
theorem S68:GY fs68:=fun h=>Yr0 (S67 h) (Yah (i:=22) rfl)
theorem S69:GY fs69:=fun h=>Yr7 (S68 h) (Yah (i:=9) rfl)
theorem S70:GY fs70:=fun h=>Ysc (S69 h) (Yah (i:=8) rfl)
theorem S71:GY fs71:=fun h=>Yse (S70 h) (Yah (i:=79) rfl)
theorem S72:GY fs72:=fun h=>Ysg (S71 h) (Yah (i:=62) rfl)
theorem S73:GY fs73:=fun h=>Ysi (S72 h) (Yah (i:=44) rfl)
theorem S74:GY fs74:=fun h=>Ysk (S73 h) (fun f h=>by
  have:=Yvf (i:=43) (by kernel_rfl) (by decide) h;subst this
  exact⟨by kernel_rfl,_,Tryz.lays146,by kernel_rfl,⟨_,tbm1,fun _ h=>h⟩,by kernel_rfl⟩)
theorem S75:GY fs75:=fun h=>Ysp (S74 h) (Yah (i:=45) rfl)
theorem S76:GY fs76:=fun h=>Ysr (S75 h) (fun f h=>by
  have:=Yvf (i:=46) (by kernel_rfl) (by decide) h;subst this
  exact⟨by kernel_rfl,YpS Tryz.laysC174 tbm2 (fun _ h=>h) tbm3 (fun _ h=>h)⟩)
theorem S77:GY fs77:=fun h=>Yst (S76 h) (fun f h=>by
  have:=Yvf (i:=47) (by kernel_rfl) (by decide) h;subst this
  exact⟨by kernel_rfl,Tryz.puint tbm2 (fun _ h=>h) tbm3 (fun _ h=>h)⟩)
theorem S78:GY fs78:=fun h=>YsA (S77 h) (Yah (i:=24) rfl)
theorem S79:GY fs79:=fun h=>YsC (S78 h) (fun f h=>by
  have:=Yvf (i:=10) (by kernel_rfl) (by decide) h;subst this
  exact⟨by kernel_rfl,Tryz.parseC 155 (by kernel_rfl) (by kernel_rfl)⟩)
theorem S80:GY fs80:=fun h=>YsH (S79 h) (Yah (i:=11) rfl)
theorem S81:GY fs81:=fun h=>YsO (S80 h) (Yah (i:=3) rfl)
end Go.Abs.G12
