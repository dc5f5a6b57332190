/- The functions of this seat's program are those of the texts: each is compared by the kernel. No condition. -/
import Derived.Test.YtgjoneiojhakgaaG
import Derived.Test.YtgjoneiojhakgaaB
import Derived.Test.YtgjoneiojhakgaaL
import Derived.Test.YtgjoneiojhakgaaChecked
set_option linter.unusedVariables false
set_option linter.unusedSimpArgs false
set_option linter.unusedSectionVars false
namespace Go.Abs.G35
open Go Go.Abs Go.Proofs
def fmL:List Nat:=[0,0,1075,328,329,330,331,332,333,334,335,336,337,338,339,340,341,342,343,344,345,346,347,348,349,350,351,352,353,308,354,266,355,356,357,358,118,271,245,359,293,360,283,361,362,363,364,365,366,367,297,263,368,260,251,369,301,163,309,296,149,151,370,371,372,373,374,375,274,262,284,311,312,313,314,315,316,317,318,319,186,187,310,164,376,377,378,379,380,381,382,383,384,385,302,303,322,195,196,323,324,325,0,386,387,388,389,320,327,390,0,0,0,0,0,0,0,0,0,0,0,0,214,0,0,215,216,0]
def fm:FM:={f:=fmOf fmL,own:=[("value.go:141",12),("index.go:107",1000001),("law.go:47",1000000),("law.go:134",1000000),("law.go:153",1000000)],dat:=[("index.go:107",36),("index.go:63",47)],mks:=["index.go:63", "index.go:95", "index.go:139"],bt:=112,bu:=5}
theorem mixed:Try.prog.follows .mixedOrders=true:=by kernel_rfl
abbrev GY(fs:Lo->List FnE):Prop:= ∀{lo:Lo},LoOK lo->GZ Try.prog fm fs lo
theorem S0:GY fs0:=fun h=>⟨h,mixed,YqS Try.prog fm pf []⟩
theorem S1:GY fs1:=fun h=>Yr7 (S0 h) (Yaf (i:=12) rfl)
theorem S2:GY fs2:=fun h=>Yr9 (S1 h) (Yaf (i:=12) rfl)
theorem S3:GY fs3:=fun h=>Ysb (S2 h) (Yaf (i:=35) rfl)
theorem S4:GY fs4:=fun h=>Ysd (S3 h) (Yaf (i:=42) rfl)
theorem S5:GY fs5:=fun h=>Ysf (S4 h) (Yaf (i:=41) rfl)
theorem S6:GY fs6:=fun h=>Ysk (S5 h) (Yaf (i:=58) rfl)
theorem S7:GY fs7:=fun h=>Ysm (S6 h) (Yaf (i:=40) rfl)
theorem S8:GY fs8:=fun h=>Yso (S7 h) (Yaf (i:=29) rfl)
theorem S9:GY fs9:=fun h=>Yst (S8 h) (Yaf (i:=44) rfl)
theorem S10:GY fs10:=fun h=>Ysy (S9 h) (Yaf (i:=82) rfl)
theorem S11:GY fs11:=fun h=>YsF (S10 h) (Yaf (i:=59) rfl)
theorem Yyc{g i f:Nat}(h:YxJ g fmL i 0=true)(hg:g≠0)(hf:fm f=g):f=i:=YkJ h hg hf
theorem YyV:BldOK Try.prog fm Try.lays240_ren:=⟨Try.bextra240,by kernel_rfl⟩
theorem YzK: ∀f,fm f=164->Ywr Try.prog f=true/\ ∃ρ:Go.Shelf.Ren,Go.Proofs.Lays.n240 Try.prog ρ/\BldOK Try.prog fm ρ/\ρ.f 240=f:=fun f h=>by
  have:=Yyc (i:=83) (by kernel_rfl) (by decide) h;subst this
  exact⟨by kernel_rfl,_,Try.lays240',YyV,by kernel_rfl⟩
theorem S12:GY fs12:=fun h=>YsH (S11 h) (YzK)
theorem S13:GY fs13:=fun h=>YsJ (S12 h) (Yaf (i:=60) rfl)
theorem YyW:BldOK Try.prog fm Try.lays169_ren:=⟨Try.bextra169,by kernel_rfl⟩
theorem YzL: ∀f,fm f=151->Ywr Try.prog f=true/\ ∃ρ:Go.Shelf.Ren,Go.Proofs.Lays.n169 Try.prog ρ/\BldOK Try.prog fm ρ/\fm.bu=ρ.t 5/\ρ.f 169=f:=fun f h=>by
  have:=Yyc (i:=61) (by kernel_rfl) (by decide) h;subst this
  exact⟨by kernel_rfl,_,Try.lays169',YyW,by kernel_rfl,by kernel_rfl⟩
theorem S14:GY fs14:=fun h=>YsL (S13 h) (YzL)
theorem S15:GY fs15:=fun h=>YsQ (S14 h) (Yaf (i:=43) rfl)
theorem S16:GY fs16:=fun h=>YsS (S15 h) (Yaf (i:=84) rfl)
theorem S17:GY fs17:=fun h=>YsU (S16 h) (Yaf (i:=62) rfl)
theorem S18:GY fs18:=fun h=>YsW (S17 h) (Yaf (i:=63) rfl)
theorem S19:GY fs19:=fun h=>Ys1 (S18 h) (Yaf (i:=45) rfl)
theorem YzF: ∀f,fm f=364->Ywr Try.prog f=true/\ ∃(ρ:Go.Shelf.Ren) (z:List Value),InsL Try.prog ρ z/\z.length=1/\ρ.f 22=f:=fun f h=>by
  have:=Yyc (i:=46) (by kernel_rfl) (by decide) h;subst this
  exact⟨by kernel_rfl,_,_,Try.insL,rfl,by kernel_rfl⟩
theorem S20:GY fs20:=fun h=>Ys3 (S19 h) (YzF)
theorem S21:GY fs21:=fun h=>Ys5 (S20 h) (YzF)
theorem S22:GY fs22:=fun h=>Ys7 (S21 h) (Yaf (i:=18) rfl)
theorem S23:GY fs23:=fun h=>Ytc (S22 h) (Yaf (i:=81) rfl)
theorem S24:GY fs24:=fun h=>Yte (S23 h) (Yaf (i:=57) rfl)
theorem S25:GY fs25:=fun h=>Ytg (S24 h) (Yaf (i:=101) rfl)
theorem S26:GY fs26:=fun h=>Yti (S25 h) (Yaf (i:=77) rfl)
theorem S27:GY fs27:=fun h=>Ytp (S26 h) (Yaf (i:=71) rfl)
theorem S28:GY fs28:=fun h=>Ytq (S27 h) trivial
theorem S29:GY fs29:=fun h=>Ytr (S28 h) trivial
theorem S30:GY fs30:=fun h=>Yts (S29 h) trivial
theorem S31:GY fs31:=fun h=>Ytt (S30 h) trivial
theorem S32:GY fs32:=fun h=>Ytu (S31 h) trivial
theorem S33:GY fs33:=fun h=>Ytv (S32 h) trivial
theorem S34:GY fs34:=fun h=>Ytw (S33 h) trivial
theorem S35:GY fs35:=fun h=>YtH (S34 h) (Yaf (i:=56) rfl)
theorem S36:GY fs36:=fun h=>YtJ (S35 h) (Yaf (i:=37) rfl)
theorem YzM: ∀f,fm f=271->Ywr Try.prog f=true/\ ∃ρ:Go.Shelf.Ren,Go.Proofs.Lays.n190 Try.prog ρ/\ρ.f 190=f:=fun f h=>by
  have:=Yyc (i:=37) (by kernel_rfl) (by decide) h;subst this
  exact⟨by kernel_rfl,_,Try.lays190,by kernel_rfl⟩
theorem S37:GY fs37:=fun h=>YtL (S36 h) (YzM)
theorem S38:GY fs38:=fun h=>YtN (S37 h) (Yaf (i:=38) rfl)
theorem S39:GY fs39:=fun h=>YtU (S38 h) (Yaf (i:=15) rfl)
theorem S40:GY fs40:=fun h=>YtZ (S39 h) (Yaf (i:=26) rfl)
theorem S41:GY fs41:=fun h=>Yt4 (S40 h) (Yaf (i:=21) rfl)
theorem S42:GY fs42:=fun h=>Yub (S41 h) (Yaf (i:=86) rfl)
theorem S43:GY fs43:=fun h=>Yuc (S42 h) trivial
theorem S44:GY fs44:=fun h=>Yud (S43 h) trivial
theorem S45:GY fs45:=fun h=>Yue (S44 h) trivial
theorem S46:GY fs46:=fun h=>Yuf (S45 h) trivial
theorem S47:GY fs47:=fun h=>Yug (S46 h) trivial
theorem S48:GY fs48:=fun h=>Yuh (S47 h) trivial
theorem S49:GY fs49:=fun h=>Yui (S48 h) trivial
theorem S50:GY fs50:=fun h=>Yut (S49 h) (Yaf (i:=67) rfl)
theorem S51:GY fs51:=fun h=>Yuv (S50 h) (Yaf (i:=49) rfl)
theorem YzN: ∀f,fm f=367->Ywr Try.prog f=true/\ ∃ρ:Go.Shelf.Ren,Go.Proofs.SlLaysN.n53 Try.prog ρ/\ρ.f 53=f:=fun f h=>by
  have:=Yyc (i:=49) (by kernel_rfl) (by decide) h;subst this
  exact⟨by kernel_rfl,_,Try.sortG,by kernel_rfl⟩
theorem S52:GY fs52:=fun h=>Yux (S51 h) (YzN)
theorem S53:GY fs53:=fun h=>YuE (S52 h) (Yaf (i:=22) rfl)
theorem eqClo: ∀f,fm f=366->EqClo Try.prog f:=fun f h=>by
  have:=Yyc (i:=48) (by kernel_rfl) (by decide) h;subst this
  exact Try.eqClo
theorem YzO: ∀f,fm f=365->Ywr Try.prog f=true/\ ∃ρ:Go.Shelf.Ren,Go.Proofs.SlLaysH.n10 Try.prog ρ/\ (∀w,(zeroValue (ρ.t 23)).run Try.prog w= .ok (.int .i64 0) w)/\ (∀f,fm f=366->EqClo Try.prog f)/\ρ.f 10=f:=fun f h=>by
  have:=Yyc (i:=47) (by kernel_rfl) (by decide) h;subst this
  exact⟨by kernel_rfl,_,Try.delF,Try.delZ,eqClo,by kernel_rfl⟩
theorem S54:GY fs54:=fun h=>YuG (S53 h) (YzO)
theorem S55:GY fs55:=fun h=>YuI (S54 h) (Yaf (i:=20) rfl)
theorem S56:GY fs56:=fun h=>YuK (S55 h) (Yaf (i:=14) rfl)
theorem S57:GY fs57:=fun h=>YuM (S56 h) (Yaf (i:=11) rfl)
theorem S58:GY fs58:=fun h=>YuR (S57 h) (Yaf (i:=36) rfl)
theorem S59:GY fs59:=S58
theorem S60:GY fs60:=S59
theorem S61:GY fs61:=fun h=>YuT (S60 h) (Yaf (i:=16) rfl)
theorem S62:GY fs62:=fun h=>YuV (S61 h) (Yaf (i:=16) rfl)
theorem S63:GY fs63:=fun h=>Yu0 (S62 h) (Yaf (i:=30) rfl)
theorem S64:GY fs64:=fun h=>Yu2 (S63 h) (Yaf (i:=39) rfl)
theorem S65:GY fs65:=fun h=>Yu4 (S64 h) (Yaf (i:=54) rfl)
theorem S66:GY fs66:=fun h=>Yu9 (S65 h) (Yaf (i:=32) rfl)
theorem S67:GY fs67:=fun h=>Yvb (S66 h) (Yaf (i:=19) rfl)
theorem S68:GY fs68:=fun h=>Yvd (S67 h) (Yaf (i:=70) rfl)
theorem S69:GY fs69:=fun h=>Yvi (S68 h) (Yaf (i:=53) rfl)
theorem S70:GY fs70:=fun h=>Yvn (S69 h) (Yaf (i:=25) rfl)
theorem S71:GY fs71:=fun h=>Yvs (S70 h) (Yaf (i:=17) rfl)
theorem S72:GY fs72:=fun h=>Yvz (S71 h) (Yaf (i:=4) rfl)
end Go.Abs.G35
