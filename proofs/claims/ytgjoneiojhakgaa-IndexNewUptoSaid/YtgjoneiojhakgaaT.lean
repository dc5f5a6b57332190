/- The functions of this seat's program are those of the texts: each is compared by the kernel. No condition. -/
import Derived.Test.YtgjoneiojhakgaaG
import Derived.Test.YtgjoneiojhakgaaB
import Derived.Test.YtgjoneiojhakgaaL
import Derived.Test.YtgjoneiojhakgaaChecked
set_option linter.unusedVariables false
set_option linter.unusedSimpArgs false
set_option linter.unusedSectionVars false
namespace Go.Abs.G35
open Go Go.Abs Go.Proofs
def fmL:List Nat:=[0,0,1075,328,329,330,331,332,333,334,335,336,337,338,339,340,341,342,343,344,345,346,347,348,349,350,351,352,353,308,354,266,355,356,357,358,118,271,245,359,293,360,283,361,362,363,364,365,366,367,297,263,368,260,251,369,301,163,309,296,149,151,370,371,372,373,374,375,274,262,284,311,312,313,314,315,316,317,318,319,186,187,310,164,376,377,378,379,380,381,382,383,384,385,302,303,322,195,196,323,324,325,0,386,387,388,389,320,327,390,0,0,0,0,0,0,0,0,0,0,0,0,214,0,0,215,216,0]
def fm:FM:={f:=fmOf fmL,own:=[("value.go:141",12),("index.go:107",1000001),("law.go:47",1000000),("law.go:134",1000000),("law.go:153",1000000)],dat:=[("index.go:107",36),("index.go:63",47)],mks:=["index.go:63", "index.go:95", "index.go:139"],bt:=112,bu:=5}
theorem mixed:Try.prog.follows .mixedOrders=true:=by kernel_rfl
abbrev GY(fs:Lo->List FnE):Prop:= ∀{lo:Lo},LoOK lo->GZ Try.prog fm fs lo
theorem S0:GY fs0:=fun h=>⟨h,mixed,Yqf Try.prog fm pf []⟩
theorem S1:GY fs1:=fun h=>Yru (S0 h) (Yai (i:=12) rfl)
theorem S2:GY fs2:=fun h=>Yrw (S1 h) (Yai (i:=12) rfl)
theorem S3:GY fs3:=fun h=>Yry (S2 h) (Yai (i:=35) rfl)
theorem S4:GY fs4:=fun h=>YrA (S3 h) (Yai (i:=42) rfl)
theorem S5:GY fs5:=fun h=>YrC (S4 h) (Yai (i:=41) rfl)
theorem S6:GY fs6:=fun h=>YrH (S5 h) (Yai (i:=58) rfl)
theorem S7:GY fs7:=fun h=>YrJ (S6 h) (Yai (i:=40) rfl)
theorem S8:GY fs8:=fun h=>YrL (S7 h) (Yai (i:=29) rfl)
theorem S9:GY fs9:=fun h=>YrQ (S8 h) (Yai (i:=44) rfl)
theorem S10:GY fs10:=fun h=>YrV (S9 h) (Yai (i:=82) rfl)
theorem S11:GY fs11:=fun h=>Yr2 (S10 h) (Yai (i:=59) rfl)
theorem YwM{g i f:Nat}(h:Ywk g fmL i 0=true)(hg:g≠0)(hf:fm f=g):f=i:=Ykm h hg hf
theorem Yxu:BldOK Try.prog fm Try.lays240_ren:=⟨Try.bextra240,by kernel_rfl⟩
theorem Yyg: ∀f,fm f=164->Yu3 Try.prog f=true/\ ∃ρ:Go.Shelf.Ren,Go.Proofs.Lays.n240 Try.prog ρ/\BldOK Try.prog fm ρ/\ρ.f 240=f:=fun f h=>by
  have:=YwM (i:=83) (by kernel_rfl) (by decide) h;subst this
  exact⟨by kernel_rfl,_,Try.lays240',Yxu,by kernel_rfl⟩
theorem S12:GY fs12:=fun h=>Yr4 (S11 h) (Yyg)
theorem S13:GY fs13:=fun h=>Yr6 (S12 h) (Yai (i:=60) rfl)
theorem Yxv:BldOK Try.prog fm Try.lays169_ren:=⟨Try.bextra169,by kernel_rfl⟩
theorem Yyh: ∀f,fm f=151->Yu3 Try.prog f=true/\ ∃ρ:Go.Shelf.Ren,Go.Proofs.Lays.n169 Try.prog ρ/\BldOK Try.prog fm ρ/\fm.bu=ρ.t 5/\ρ.f 169=f:=fun f h=>by
  have:=YwM (i:=61) (by kernel_rfl) (by decide) h;subst this
  exact⟨by kernel_rfl,_,Try.lays169',Yxv,by kernel_rfl,by kernel_rfl⟩
theorem S14:GY fs14:=fun h=>Yr8 (S13 h) (Yyh)
theorem S15:GY fs15:=fun h=>Ysd (S14 h) (Yai (i:=43) rfl)
theorem S16:GY fs16:=fun h=>Ysf (S15 h) (Yai (i:=84) rfl)
theorem S17:GY fs17:=fun h=>Ysh (S16 h) (Yai (i:=62) rfl)
theorem S18:GY fs18:=fun h=>Ysj (S17 h) (Yai (i:=63) rfl)
theorem S19:GY fs19:=fun h=>Yso (S18 h) (Yai (i:=45) rfl)
theorem Yyc: ∀f,fm f=364->Yu3 Try.prog f=true/\ ∃(ρ:Go.Shelf.Ren) (z:List Value),InsL Try.prog ρ z/\z.length=1/\ρ.f 22=f:=fun f h=>by
  have:=YwM (i:=46) (by kernel_rfl) (by decide) h;subst this
  exact⟨by kernel_rfl,_,_,Try.insL,rfl,by kernel_rfl⟩
theorem S20:GY fs20:=fun h=>Ysq (S19 h) (Yyc)
theorem S21:GY fs21:=fun h=>Yss (S20 h) (Yyc)
theorem S22:GY fs22:=fun h=>Ysu (S21 h) (Yai (i:=18) rfl)
theorem S23:GY fs23:=fun h=>Ysz (S22 h) (Yai (i:=81) rfl)
theorem S24:GY fs24:=fun h=>YsB (S23 h) (Yai (i:=57) rfl)
theorem S25:GY fs25:=fun h=>YsD (S24 h) (Yai (i:=101) rfl)
theorem S26:GY fs26:=fun h=>YsF (S25 h) (Yai (i:=77) rfl)
theorem S27:GY fs27:=fun h=>YsM (S26 h) (Yai (i:=71) rfl)
theorem S28:GY fs28:=fun h=>YsN (S27 h) trivial
theorem S29:GY fs29:=fun h=>YsO (S28 h) trivial
theorem S30:GY fs30:=fun h=>YsP (S29 h) trivial
theorem S31:GY fs31:=fun h=>YsQ (S30 h) trivial
theorem S32:GY fs32:=fun h=>YsR (S31 h) trivial
theorem S33:GY fs33:=fun h=>YsS (S32 h) trivial
theorem S34:GY fs34:=fun h=>YsT (S33 h) trivial
theorem S35:GY fs35:=fun h=>Ys4 (S34 h) (Yai (i:=56) rfl)
theorem S36:GY fs36:=fun h=>Ys6 (S35 h) (Yai (i:=37) rfl)
theorem Yyi: ∀f,fm f=271->Yu3 Try.prog f=true/\ ∃ρ:Go.Shelf.Ren,Go.Proofs.Lays.n190 Try.prog ρ/\ρ.f 190=f:=fun f h=>by
  have:=YwM (i:=37) (by kernel_rfl) (by decide) h;subst this
  exact⟨by kernel_rfl,_,Try.lays190,by kernel_rfl⟩
theorem S37:GY fs37:=fun h=>Ys8 (S36 h) (Yyi)
theorem S38:GY fs38:=fun h=>Yta (S37 h) (Yai (i:=38) rfl)
theorem S39:GY fs39:=fun h=>Yth (S38 h) (Yai (i:=15) rfl)
theorem S40:GY fs40:=fun h=>Ytm (S39 h) (Yai (i:=26) rfl)
theorem S41:GY fs41:=fun h=>Ytr (S40 h) (Yai (i:=21) rfl)
theorem S42:GY fs42:=fun h=>Yty (S41 h) (Yai (i:=86) rfl)
theorem S43:GY fs43:=fun h=>Ytz (S42 h) trivial
theorem S44:GY fs44:=fun h=>YtA (S43 h) trivial
theorem S45:GY fs45:=fun h=>YtB (S44 h) trivial
theorem S46:GY fs46:=fun h=>YtC (S45 h) trivial
theorem S47:GY fs47:=fun h=>YtD (S46 h) trivial
theorem S48:GY fs48:=fun h=>YtE (S47 h) trivial
theorem S49:GY fs49:=fun h=>YtF (S48 h) trivial
theorem S50:GY fs50:=fun h=>YtQ (S49 h) (Yai (i:=67) rfl)
theorem S51:GY fs51:=fun h=>YtS (S50 h) (Yai (i:=49) rfl)
theorem Yyj: ∀f,fm f=367->Yu3 Try.prog f=true/\ ∃ρ:Go.Shelf.Ren,Go.Proofs.SlLaysN.n53 Try.prog ρ/\ρ.f 53=f:=fun f h=>by
  have:=YwM (i:=49) (by kernel_rfl) (by decide) h;subst this
  exact⟨by kernel_rfl,_,Try.sortG,by kernel_rfl⟩
theorem S52:GY fs52:=fun h=>YtU (S51 h) (Yyj)
theorem S53:GY fs53:=fun h=>Yt1 (S52 h) (Yai (i:=22) rfl)
theorem eqClo: ∀f,fm f=366->EqClo Try.prog f:=fun f h=>by
  have:=YwM (i:=48) (by kernel_rfl) (by decide) h;subst this
  exact Try.eqClo
theorem Yyk: ∀f,fm f=365->Yu3 Try.prog f=true/\ ∃ρ:Go.Shelf.Ren,Go.Proofs.SlLaysH.n10 Try.prog ρ/\ (∀w,(zeroValue (ρ.t 23)).run Try.prog w= .ok (.int .i64 0) w)/\ (∀f,fm f=366->EqClo Try.prog f)/\ρ.f 10=f:=fun f h=>by
  have:=YwM (i:=47) (by kernel_rfl) (by decide) h;subst this
  exact⟨by kernel_rfl,_,Try.delF,Try.delZ,eqClo,by kernel_rfl⟩
theorem S54:GY fs54:=fun h=>Yt3 (S53 h) (Yyk)
theorem S55:GY fs55:=fun h=>Yt5 (S54 h) (Yai (i:=20) rfl)
theorem S56:GY fs56:=fun h=>Yt7 (S55 h) (Yai (i:=14) rfl)
theorem S57:GY fs57:=fun h=>Yt9 (S56 h) (Yai (i:=11) rfl)
theorem S58:GY fs58:=fun h=>Yue (S57 h) (Yai (i:=36) rfl)
theorem S59:GY fs59:=fun h=>Yug (S58 h) (Yai (i:=13) rfl)
theorem S60:GY fs60:=fun h=>Yui (S59 h) (Yai (i:=3) rfl)
end Go.Abs.G35
