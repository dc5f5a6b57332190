/- The functions of this seat's program are those of the texts: each is compared by the kernel. No condition. -/
import Derived.Test.YtgjoneiojhakgaaG
import Derived.Test.YtgjoneiojhakgaaB
import Derived.Test.YtgjoneiojhakgaaL
import Derived.Test.YtgjoneiojhakgaaChecked
set_option linter.unusedVariables false
set_option linter.unusedSimpArgs false
set_option linter.unusedSectionVars false
namespace Go.Abs.G35
open Go Go.Abs Go.Proofs
def fmL:List Nat:=[0,0,1075,328,329,330,331,332,333,334,335,336,337,338,339,340,341,342,343,344,345,346,347,348,349,350,351,352,353,308,354,266,355,356,357,358,118,271,245,359,293,360,283,361,362,363,364,365,366,367,297,263,368,260,251,369,301,163,309,296,149,151,370,371,372,373,374,375,274,262,284,311,312,313,314,315,316,317,318,319,186,187,310,164,376,377,378,379,380,381,382,383,384,385,302,303,322,195,196,323,324,325,0,386,387,388,389,320,327,390,0,0,0,0,0,0,0,0,0,0,0,0,214,0,0,215,216,0]
def fm:FM:={f:=fmOf fmL,own:=[("value.go:141",12),("index.go:107",1000001),("law.go:47",1000000),("law.go:134",1000000),("law.go:153",1000000)],dat:=[("index.go:107",36),("index.go:63",47)],mks:=["index.go:63", "index.go:95", "index.go:139"],bt:=112,bu:=5}
theorem mixed:Try.prog.follows .mixedOrders=true:=by kernel_rfl
abbrev GY(fs:Lo->List FnE):Prop:= ∀{lo:Lo},LoOK lo->GZ Try.prog fm fs lo
theorem S0:GY fs0:=fun h=>⟨h,mixed,Yrg Try.prog fm pf []⟩
theorem S1:GY fs1:=fun h=>Ysv (S0 h) (Yab (i:=12) rfl)
theorem S2:GY fs2:=fun h=>Ysx (S1 h) (Yab (i:=12) rfl)
theorem S3:GY fs3:=fun h=>Ysz (S2 h) (Yab (i:=35) rfl)
theorem S4:GY fs4:=fun h=>YsB (S3 h) (Yab (i:=42) rfl)
theorem S5:GY fs5:=fun h=>YsD (S4 h) (Yab (i:=41) rfl)
theorem S6:GY fs6:=fun h=>YsI (S5 h) (Yab (i:=58) rfl)
theorem S7:GY fs7:=fun h=>YsK (S6 h) (Yab (i:=40) rfl)
theorem S8:GY fs8:=fun h=>YsM (S7 h) (Yab (i:=29) rfl)
theorem S9:GY fs9:=fun h=>YsR (S8 h) (Yab (i:=44) rfl)
theorem S10:GY fs10:=fun h=>YsW (S9 h) (Yab (i:=82) rfl)
theorem S11:GY fs11:=fun h=>Ys3 (S10 h) (Yab (i:=59) rfl)
theorem Yzc{g i f:Nat}(h:YyJ g fmL i 0=true)(hg:g≠0)(hf:fm f=g):f=i:=YkV h hg hf
theorem YzX:BldOK Try.prog fm Try.lays240_ren:=⟨Try.bextra240,by kernel_rfl⟩
theorem YAR: ∀f,fm f=164->Yxt Try.prog f=true/\ ∃ρ:Go.Shelf.Ren,Go.Proofs.Lays.n240 Try.prog ρ/\BldOK Try.prog fm ρ/\ρ.f 240=f:=fun f h=>by
  have:=Yzc (i:=83) (by kernel_rfl) (by decide) h;subst this
  exact⟨by kernel_rfl,_,Try.lays240',YzX,by kernel_rfl⟩
theorem S12:GY fs12:=fun h=>Ys5 (S11 h) (YAR)
theorem S13:GY fs13:=fun h=>Ys7 (S12 h) (Yab (i:=60) rfl)
theorem YzY:BldOK Try.prog fm Try.lays169_ren:=⟨Try.bextra169,by kernel_rfl⟩
theorem YAS: ∀f,fm f=151->Yxt Try.prog f=true/\ ∃ρ:Go.Shelf.Ren,Go.Proofs.Lays.n169 Try.prog ρ/\BldOK Try.prog fm ρ/\fm.bu=ρ.t 5/\ρ.f 169=f:=fun f h=>by
  have:=Yzc (i:=61) (by kernel_rfl) (by decide) h;subst this
  exact⟨by kernel_rfl,_,Try.lays169',YzY,by kernel_rfl,by kernel_rfl⟩
theorem S14:GY fs14:=fun h=>Ys9 (S13 h) (YAS)
theorem S15:GY fs15:=fun h=>Yte (S14 h) (Yab (i:=43) rfl)
theorem S16:GY fs16:=fun h=>Ytg (S15 h) (Yab (i:=84) rfl)
theorem S17:GY fs17:=fun h=>Yti (S16 h) (Yab (i:=62) rfl)
theorem S18:GY fs18:=fun h=>Ytk (S17 h) (Yab (i:=63) rfl)
theorem S19:GY fs19:=fun h=>Ytp (S18 h) (Yab (i:=45) rfl)
theorem YAK: ∀f,fm f=364->Yxt Try.prog f=true/\ ∃(ρ:Go.Shelf.Ren) (z:List Value),InsL Try.prog ρ z/\z.length=1/\ρ.f 22=f:=fun f h=>by
  have:=Yzc (i:=46) (by kernel_rfl) (by decide) h;subst this
  exact⟨by kernel_rfl,_,_,Try.insL,rfl,by kernel_rfl⟩
theorem S20:GY fs20:=fun h=>Ytr (S19 h) (YAK)
theorem S21:GY fs21:=fun h=>Ytt (S20 h) (YAK)
theorem S22:GY fs22:=fun h=>Ytv (S21 h) (Yab (i:=18) rfl)
theorem S23:GY fs23:=fun h=>YtA (S22 h) (Yab (i:=81) rfl)
theorem S24:GY fs24:=fun h=>YtC (S23 h) (Yab (i:=57) rfl)
theorem S25:GY fs25:=fun h=>YtE (S24 h) (Yab (i:=101) rfl)
theorem S26:GY fs26:=fun h=>YtG (S25 h) (Yab (i:=77) rfl)
theorem S27:GY fs27:=fun h=>YtN (S26 h) (Yab (i:=71) rfl)
theorem S28:GY fs28:=fun h=>YtO (S27 h) trivial
theorem S29:GY fs29:=fun h=>YtP (S28 h) trivial
theorem S30:GY fs30:=fun h=>YtQ (S29 h) trivial
theorem S31:GY fs31:=fun h=>YtR (S30 h) trivial
theorem S32:GY fs32:=fun h=>YtS (S31 h) trivial
theorem S33:GY fs33:=fun h=>YtT (S32 h) trivial
theorem S34:GY fs34:=fun h=>YtU (S33 h) trivial
theorem S35:GY fs35:=fun h=>Yt5 (S34 h) (Yab (i:=56) rfl)
theorem S36:GY fs36:=fun h=>Yt7 (S35 h) (Yab (i:=37) rfl)
theorem YAT: ∀f,fm f=271->Yxt Try.prog f=true/\ ∃ρ:Go.Shelf.Ren,Go.Proofs.Lays.n190 Try.prog ρ/\ρ.f 190=f:=fun f h=>by
  have:=Yzc (i:=37) (by kernel_rfl) (by decide) h;subst this
  exact⟨by kernel_rfl,_,Try.lays190,by kernel_rfl⟩
theorem S37:GY fs37:=fun h=>Yt9 (S36 h) (YAT)
theorem S38:GY fs38:=fun h=>Yub (S37 h) (Yab (i:=38) rfl)
theorem S39:GY fs39:=fun h=>Yui (S38 h) (Yab (i:=15) rfl)
theorem S40:GY fs40:=fun h=>Yun (S39 h) (Yab (i:=26) rfl)
theorem S41:GY fs41:=fun h=>Yus (S40 h) (Yab (i:=21) rfl)
theorem S42:GY fs42:=fun h=>Yuz (S41 h) (Yab (i:=86) rfl)
theorem S43:GY fs43:=fun h=>YuA (S42 h) trivial
theorem S44:GY fs44:=fun h=>YuB (S43 h) trivial
theorem S45:GY fs45:=fun h=>YuC (S44 h) trivial
theorem S46:GY fs46:=fun h=>YuD (S45 h) trivial
theorem S47:GY fs47:=fun h=>YuE (S46 h) trivial
theorem S48:GY fs48:=fun h=>YuF (S47 h) trivial
theorem S49:GY fs49:=fun h=>YuG (S48 h) trivial
theorem S50:GY fs50:=fun h=>YuR (S49 h) (Yab (i:=67) rfl)
theorem S51:GY fs51:=fun h=>YuT (S50 h) (Yab (i:=49) rfl)
theorem YAU: ∀f,fm f=367->Yxt Try.prog f=true/\ ∃ρ:Go.Shelf.Ren,Go.Proofs.SlLaysN.n53 Try.prog ρ/\ρ.f 53=f:=fun f h=>by
  have:=Yzc (i:=49) (by kernel_rfl) (by decide) h;subst this
  exact⟨by kernel_rfl,_,Try.sortG,by kernel_rfl⟩
theorem S52:GY fs52:=fun h=>YuV (S51 h) (YAU)
theorem S53:GY fs53:=fun h=>Yu2 (S52 h) (Yab (i:=22) rfl)
theorem eqClo: ∀f,fm f=366->EqClo Try.prog f:=fun f h=>by
  have:=Yzc (i:=48) (by kernel_rfl) (by decide) h;subst this
  exact Try.eqClo
theorem YAV: ∀f,fm f=365->Yxt Try.prog f=true/\ ∃ρ:Go.Shelf.Ren,Go.Proofs.SlLaysH.n10 Try.prog ρ/\ (∀w,(zeroValue (ρ.t 23)).run Try.prog w= .ok (.int .i64 0) w)/\ (∀f,fm f=366->EqClo Try.prog f)/\ρ.f 10=f:=fun f h=>by
  have:=Yzc (i:=47) (by kernel_rfl) (by decide) h;subst this
  exact⟨by kernel_rfl,_,Try.delF,Try.delZ,eqClo,by kernel_rfl⟩
theorem S54:GY fs54:=fun h=>Yu4 (S53 h) (YAV)
theorem S55:GY fs55:=fun h=>Yu6 (S54 h) (Yab (i:=20) rfl)
theorem S56:GY fs56:=fun h=>Yu8 (S55 h) (Yab (i:=14) rfl)
theorem S57:GY fs57:=fun h=>Yva (S56 h) (Yab (i:=11) rfl)
theorem S58:GY fs58:=fun h=>Yvf (S57 h) (Yab (i:=36) rfl)
theorem S59:GY fs59:=S58
theorem S60:GY fs60:=S59
theorem S61:GY fs61:=fun h=>Yvh (S60 h) (Yab (i:=16) rfl)
theorem S62:GY fs62:=fun h=>Yvj (S61 h) (Yab (i:=16) rfl)
theorem S63:GY fs63:=fun h=>Yvo (S62 h) (Yab (i:=30) rfl)
theorem S64:GY fs64:=fun h=>Yvq (S63 h) (Yab (i:=39) rfl)
theorem S65:GY fs65:=fun h=>Yvs (S64 h) (Yab (i:=54) rfl)
theorem S66:GY fs66:=fun h=>Yvx (S65 h) (Yab (i:=32) rfl)
theorem S67:GY fs67:=fun h=>Yvz (S66 h) (Yab (i:=19) rfl)
theorem S68:GY fs68:=fun h=>YvB (S67 h) (Yab (i:=70) rfl)
theorem S69:GY fs69:=fun h=>YvG (S68 h) (Yab (i:=53) rfl)
theorem S70:GY fs70:=fun h=>YvL (S69 h) (Yab (i:=25) rfl)
theorem S71:GY fs71:=fun h=>YvQ (S70 h) (Yab (i:=17) rfl)
theorem S72:GY fs72:=S71
theorem S73:GY fs73:=fun h=>YvS (S72 h) (Yab (i:=69) rfl)
theorem S74:GY fs74:=fun h=>YvX (S73 h) (Yab (i:=51) rfl)
theorem S75:GY fs75:=fun h=>YvZ (S74 h) (Yab (i:=95) rfl)
theorem S76:GY fs76:=fun h=>Yv4 (S75 h) (Yab (i:=107) rfl)
theorem S77:GY fs77:=fun h=>Yv6 (S76 h) (Yab (i:=94) rfl)
theorem S78:GY fs78:=fun h=>Ywb (S77 h) (Yab (i:=68) rfl)
theorem S79:GY fs79:=fun h=>Ywd (S78 h) (Yab (i:=50) rfl)
theorem S80:GY fs80:=S79
theorem S81:GY fs81:=S80
theorem S82:GY fs82:=fun h=>Ywi (S81 h) (Yab (i:=34) rfl)
theorem S83:GY fs83:=S82
theorem S84:GY fs84:=fun h=>Ywk (S83 h) (Yab (i:=28) rfl)
theorem S85:GY fs85:=fun h=>Ywm (S84 h) (Yab (i:=31) rfl)
theorem S86:GY fs86:=S85
theorem S87:GY fs87:=S86
theorem S88:GY fs88:=S87
theorem S89:GY fs89:=S88
theorem S90:GY fs90:=S89
theorem S91:GY fs91:=fun h=>Ywo (S90 h) (Yab (i:=55) rfl)
theorem S92:GY fs92:=fun h=>Ywt (S91 h) (Yab (i:=58) rfl)
theorem S93:GY fs93:=fun h=>Ywv (S92 h) (Yab (i:=40) rfl)
theorem S94:GY fs94:=fun h=>YwA (S93 h) (Yab (i:=33) rfl)
theorem S95:GY fs95:=fun h=>YwC (S94 h) (Yab (i:=10) rfl)
end Go.Abs.G35
