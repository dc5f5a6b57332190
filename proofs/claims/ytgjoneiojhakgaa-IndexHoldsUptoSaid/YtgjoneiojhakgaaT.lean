/- The functions of this seat's program are those of the texts: each is compared by the kernel. No condition. -/
import Derived.Test.YtgjoneiojhakgaaG
import Derived.Test.YtgjoneiojhakgaaB
import Derived.Test.YtgjoneiojhakgaaL
import Derived.Test.YtgjoneiojhakgaaChecked
set_option linter.unusedVariables false
set_option linter.unusedSimpArgs false
set_option linter.unusedSectionVars false
namespace Go.Abs.G35
open Go Go.Abs Go.Proofs
def fmL:List Nat:=[0,0,1075,328,329,330,331,332,333,334,335,336,337,338,339,340,341,342,343,344,345,346,347,348,349,350,351,352,353,308,354,266,355,356,357,358,118,271,245,359,293,360,283,361,362,363,364,365,366,367,297,263,368,260,251,369,301,163,309,296,149,151,370,371,372,373,374,375,274,262,284,311,312,313,314,315,316,317,318,319,186,187,310,164,376,377,378,379,380,381,382,383,384,385,302,303,322,195,196,323,324,325,0,386,387,388,389,320,327,390,0,0,0,0,0,0,0,0,0,0,0,0,214,0,0,215,216,0]
def fm:FM:={f:=fmOf fmL,own:=[("value.go:141",12),("index.go:107",1000001),("law.go:47",1000000),("law.go:134",1000000),("law.go:153",1000000)],dat:=[("index.go:107",36),("index.go:63",47)],mks:=["index.go:63", "index.go:95", "index.go:139"],bt:=112,bu:=5}
theorem mixed:Try.prog.follows .mixedOrders=true:=by kernel_rfl
abbrev GY(fs:Lo->List FnE):Prop:= ∀{lo:Lo},LoOK lo->GZ Try.prog fm fs lo
theorem S0:GY fs0:=fun h=>⟨h,mixed,Yq0 Try.prog fm pf []⟩
theorem S1:GY fs1:=fun h=>Ysf (S0 h) (Yad (i:=12) rfl)
theorem S2:GY fs2:=fun h=>Ysh (S1 h) (Yad (i:=12) rfl)
theorem S3:GY fs3:=fun h=>Ysj (S2 h) (Yad (i:=35) rfl)
theorem S4:GY fs4:=fun h=>Ysl (S3 h) (Yad (i:=42) rfl)
theorem S5:GY fs5:=fun h=>Ysn (S4 h) (Yad (i:=41) rfl)
theorem S6:GY fs6:=fun h=>Yss (S5 h) (Yad (i:=58) rfl)
theorem S7:GY fs7:=fun h=>Ysu (S6 h) (Yad (i:=40) rfl)
theorem S8:GY fs8:=fun h=>Ysw (S7 h) (Yad (i:=29) rfl)
theorem S9:GY fs9:=fun h=>YsB (S8 h) (Yad (i:=44) rfl)
theorem S10:GY fs10:=fun h=>YsG (S9 h) (Yad (i:=82) rfl)
theorem S11:GY fs11:=fun h=>YsN (S10 h) (Yad (i:=59) rfl)
theorem YyO{g i f:Nat}(h:Yym g fmL i 0=true)(hg:g≠0)(hf:fm f=g):f=i:=YkK h hg hf
theorem Yzy:BldOK Try.prog fm Try.lays240_ren:=⟨Try.bextra240,by kernel_rfl⟩
theorem YAs: ∀f,fm f=164->Yw5 Try.prog f=true/\ ∃ρ:Go.Shelf.Ren,Go.Proofs.Lays.n240 Try.prog ρ/\BldOK Try.prog fm ρ/\ρ.f 240=f:=fun f h=>by
  have:=YyO (i:=83) (by kernel_rfl) (by decide) h;subst this
  exact⟨by kernel_rfl,_,Try.lays240',Yzy,by kernel_rfl⟩
theorem S12:GY fs12:=fun h=>YsP (S11 h) (YAs)
theorem S13:GY fs13:=fun h=>YsR (S12 h) (Yad (i:=60) rfl)
theorem Yzz:BldOK Try.prog fm Try.lays169_ren:=⟨Try.bextra169,by kernel_rfl⟩
theorem YAt: ∀f,fm f=151->Yw5 Try.prog f=true/\ ∃ρ:Go.Shelf.Ren,Go.Proofs.Lays.n169 Try.prog ρ/\BldOK Try.prog fm ρ/\fm.bu=ρ.t 5/\ρ.f 169=f:=fun f h=>by
  have:=YyO (i:=61) (by kernel_rfl) (by decide) h;subst this
  exact⟨by kernel_rfl,_,Try.lays169',Yzz,by kernel_rfl,by kernel_rfl⟩
theorem S14:GY fs14:=fun h=>YsT (S13 h) (YAt)
theorem S15:GY fs15:=fun h=>YsY (S14 h) (Yad (i:=43) rfl)
theorem S16:GY fs16:=fun h=>Ys0 (S15 h) (Yad (i:=84) rfl)
theorem S17:GY fs17:=fun h=>Ys2 (S16 h) (Yad (i:=62) rfl)
theorem S18:GY fs18:=fun h=>Ys4 (S17 h) (Yad (i:=63) rfl)
theorem S19:GY fs19:=fun h=>Ys9 (S18 h) (Yad (i:=45) rfl)
theorem YAk: ∀f,fm f=364->Yw5 Try.prog f=true/\ ∃(ρ:Go.Shelf.Ren) (z:List Value),InsL Try.prog ρ z/\z.length=1/\ρ.f 22=f:=fun f h=>by
  have:=YyO (i:=46) (by kernel_rfl) (by decide) h;subst this
  exact⟨by kernel_rfl,_,_,Try.insL,rfl,by kernel_rfl⟩
theorem S20:GY fs20:=fun h=>Ytb (S19 h) (YAk)
theorem S21:GY fs21:=fun h=>Ytd (S20 h) (YAk)
theorem S22:GY fs22:=fun h=>Ytf (S21 h) (Yad (i:=18) rfl)
theorem S23:GY fs23:=fun h=>Ytk (S22 h) (Yad (i:=81) rfl)
theorem S24:GY fs24:=fun h=>Ytm (S23 h) (Yad (i:=57) rfl)
theorem S25:GY fs25:=fun h=>Yto (S24 h) (Yad (i:=101) rfl)
theorem S26:GY fs26:=fun h=>Ytq (S25 h) (Yad (i:=77) rfl)
theorem S27:GY fs27:=fun h=>Ytx (S26 h) (Yad (i:=71) rfl)
theorem S28:GY fs28:=fun h=>Yty (S27 h) trivial
theorem S29:GY fs29:=fun h=>Ytz (S28 h) trivial
theorem S30:GY fs30:=fun h=>YtA (S29 h) trivial
theorem S31:GY fs31:=fun h=>YtB (S30 h) trivial
theorem S32:GY fs32:=fun h=>YtC (S31 h) trivial
theorem S33:GY fs33:=fun h=>YtD (S32 h) trivial
theorem S34:GY fs34:=fun h=>YtE (S33 h) trivial
theorem S35:GY fs35:=fun h=>YtP (S34 h) (Yad (i:=56) rfl)
theorem S36:GY fs36:=fun h=>YtR (S35 h) (Yad (i:=37) rfl)
theorem YAu: ∀f,fm f=271->Yw5 Try.prog f=true/\ ∃ρ:Go.Shelf.Ren,Go.Proofs.Lays.n190 Try.prog ρ/\ρ.f 190=f:=fun f h=>by
  have:=YyO (i:=37) (by kernel_rfl) (by decide) h;subst this
  exact⟨by kernel_rfl,_,Try.lays190,by kernel_rfl⟩
theorem S37:GY fs37:=fun h=>YtT (S36 h) (YAu)
theorem S38:GY fs38:=fun h=>YtV (S37 h) (Yad (i:=38) rfl)
theorem S39:GY fs39:=fun h=>Yt2 (S38 h) (Yad (i:=15) rfl)
theorem S40:GY fs40:=fun h=>Yt7 (S39 h) (Yad (i:=26) rfl)
theorem S41:GY fs41:=fun h=>Yuc (S40 h) (Yad (i:=21) rfl)
theorem S42:GY fs42:=fun h=>Yuj (S41 h) (Yad (i:=86) rfl)
theorem S43:GY fs43:=fun h=>Yuk (S42 h) trivial
theorem S44:GY fs44:=fun h=>Yul (S43 h) trivial
theorem S45:GY fs45:=fun h=>Yum (S44 h) trivial
theorem S46:GY fs46:=fun h=>Yun (S45 h) trivial
theorem S47:GY fs47:=fun h=>Yuo (S46 h) trivial
theorem S48:GY fs48:=fun h=>Yup (S47 h) trivial
theorem S49:GY fs49:=fun h=>Yuq (S48 h) trivial
theorem S50:GY fs50:=fun h=>YuB (S49 h) (Yad (i:=67) rfl)
theorem S51:GY fs51:=fun h=>YuD (S50 h) (Yad (i:=49) rfl)
theorem YAv: ∀f,fm f=367->Yw5 Try.prog f=true/\ ∃ρ:Go.Shelf.Ren,Go.Proofs.SlLaysN.n53 Try.prog ρ/\ρ.f 53=f:=fun f h=>by
  have:=YyO (i:=49) (by kernel_rfl) (by decide) h;subst this
  exact⟨by kernel_rfl,_,Try.sortG,by kernel_rfl⟩
theorem S52:GY fs52:=fun h=>YuF (S51 h) (YAv)
theorem S53:GY fs53:=fun h=>YuM (S52 h) (Yad (i:=22) rfl)
theorem eqClo: ∀f,fm f=366->EqClo Try.prog f:=fun f h=>by
  have:=YyO (i:=48) (by kernel_rfl) (by decide) h;subst this
  exact Try.eqClo
theorem YAw: ∀f,fm f=365->Yw5 Try.prog f=true/\ ∃ρ:Go.Shelf.Ren,Go.Proofs.SlLaysH.n10 Try.prog ρ/\ (∀w,(zeroValue (ρ.t 23)).run Try.prog w= .ok (.int .i64 0) w)/\ (∀f,fm f=366->EqClo Try.prog f)/\ρ.f 10=f:=fun f h=>by
  have:=YyO (i:=47) (by kernel_rfl) (by decide) h;subst this
  exact⟨by kernel_rfl,_,Try.delF,Try.delZ,eqClo,by kernel_rfl⟩
theorem S54:GY fs54:=fun h=>YuO (S53 h) (YAw)
theorem S55:GY fs55:=fun h=>YuQ (S54 h) (Yad (i:=20) rfl)
theorem S56:GY fs56:=fun h=>YuS (S55 h) (Yad (i:=14) rfl)
theorem S57:GY fs57:=fun h=>YuU (S56 h) (Yad (i:=11) rfl)
theorem S58:GY fs58:=fun h=>YuZ (S57 h) (Yad (i:=36) rfl)
theorem S59:GY fs59:=S58
theorem S60:GY fs60:=S59
theorem S61:GY fs61:=fun h=>Yu1 (S60 h) (Yad (i:=16) rfl)
theorem S62:GY fs62:=fun h=>Yu3 (S61 h) (Yad (i:=16) rfl)
theorem S63:GY fs63:=fun h=>Yu8 (S62 h) (Yad (i:=30) rfl)
theorem S64:GY fs64:=fun h=>Yva (S63 h) (Yad (i:=39) rfl)
theorem S65:GY fs65:=fun h=>Yvc (S64 h) (Yad (i:=54) rfl)
theorem S66:GY fs66:=fun h=>Yvh (S65 h) (Yad (i:=32) rfl)
theorem S67:GY fs67:=fun h=>Yvj (S66 h) (Yad (i:=19) rfl)
theorem S68:GY fs68:=fun h=>Yvl (S67 h) (Yad (i:=70) rfl)
theorem S69:GY fs69:=fun h=>Yvq (S68 h) (Yad (i:=53) rfl)
theorem S70:GY fs70:=fun h=>Yvv (S69 h) (Yad (i:=25) rfl)
theorem S71:GY fs71:=fun h=>YvA (S70 h) (Yad (i:=17) rfl)
theorem S72:GY fs72:=S71
theorem S73:GY fs73:=fun h=>YvC (S72 h) (Yad (i:=69) rfl)
theorem S74:GY fs74:=fun h=>YvH (S73 h) (Yad (i:=51) rfl)
theorem S75:GY fs75:=fun h=>YvJ (S74 h) (Yad (i:=95) rfl)
theorem S76:GY fs76:=fun h=>YvO (S75 h) (Yad (i:=107) rfl)
theorem S77:GY fs77:=fun h=>YvQ (S76 h) (Yad (i:=94) rfl)
theorem S78:GY fs78:=fun h=>YvV (S77 h) (Yad (i:=68) rfl)
theorem S79:GY fs79:=fun h=>YvX (S78 h) (Yad (i:=50) rfl)
theorem S80:GY fs80:=fun h=>YvZ (S79 h) (Yad (i:=23) rfl)
theorem S81:GY fs81:=fun h=>Yv6 (S80 h) (Yad (i:=5) rfl)
end Go.Abs.G35
