/- The functions of this seat's program are those of the texts: each is compared by the kernel. No condition. -/
import Derived.Test.YtgjoneiojhakgaaG
import Derived.Test.YtgjoneiojhakgaaB
import Derived.Test.YtgjoneiojhakgaaL
import Derived.Test.YtgjoneiojhakgaaChecked
set_option linter.unusedVariables false
set_option linter.unusedSimpArgs false
set_option linter.unusedSectionVars false
namespace Go.Abs.G3m
open Go Go.Abs Go.Proofs
def fmL:List Nat:=[0,0,1075,328,329,330,331,332,333,334,335,336,337,338,339,340,341,342,343,344,345,346,347,348,349,350,351,352,353,308,354,266,355,356,357,358,118,271,245,359,293,360,283,361,362,363,364,365,366,367,297,263,368,260,251,369,301,163,309,296,149,151,370,371,372,373,374,375,274,262,284,311,312,313,314,315,316,317,318,319,186,187,310,164,376,377,378,379,380,381,382,383,384,385,302,303,322,195,196,323,324,325,0,386,387,388,389,320,327,390,0,0,0,0,0,0,0,0,0,0,0,0,214,0,0,215,216,0]
def fm:FM:={f:=fmOf fmL,own:=[("value.go:141",12),("index.go:107",1000001),("law.go:47",1000000),("law.go:134",1000000),("law.go:153",1000000)],dat:=[("index.go:63",47)],mks:=["index.go:63", "index.go:95", "index.go:139"],bt:=112,bu:=5}
theorem mixed:Try.prog.follows .mixedOrders=true:=by kernel_rfl
abbrev GY(fs:Lo->List FnE):Prop:= ∀{lo:Lo},LoOK lo->GZ Try.prog fm fs lo
theorem S0:GY fs0:=fun h=>⟨h,mixed,YrR Try.prog fm pf []⟩
theorem S1:GY fs1:=fun h=>Ys6 (S0 h) (Yab (i:=12) rfl)
theorem S2:GY fs2:=fun h=>Ys8 (S1 h) (Yab (i:=12) rfl)
theorem S3:GY fs3:=fun h=>Yta (S2 h) (Yab (i:=35) rfl)
theorem S4:GY fs4:=fun h=>Ytc (S3 h) (Yab (i:=42) rfl)
theorem S5:GY fs5:=fun h=>Yte (S4 h) (Yab (i:=41) rfl)
theorem S6:GY fs6:=fun h=>Ytj (S5 h) (Yab (i:=58) rfl)
theorem S7:GY fs7:=fun h=>Ytl (S6 h) (Yab (i:=40) rfl)
theorem S8:GY fs8:=fun h=>Ytn (S7 h) (Yab (i:=29) rfl)
theorem S9:GY fs9:=fun h=>Yts (S8 h) (Yab (i:=44) rfl)
theorem S10:GY fs10:=fun h=>Ytx (S9 h) (Yab (i:=82) rfl)
theorem S11:GY fs11:=fun h=>YtE (S10 h) (Yab (i:=59) rfl)
theorem YAg{g i f:Nat}(h:YzO g fmL i 0=true)(hg:g≠0)(hf:fm f=g):f=i:=Ylo h hg hf
theorem YA2:BldOK Try.prog fm Try.lays240_ren:=⟨Try.bextra240,by kernel_rfl⟩
theorem YB0: ∀f,fm f=164->Yyw Try.prog f=true/\ ∃ρ:Go.Shelf.Ren,Go.Proofs.Lays.n240 Try.prog ρ/\BldOK Try.prog fm ρ/\ρ.f 240=f:=fun f h=>by
  have:=YAg (i:=83) (by kernel_rfl) (by decide) h;subst this
  exact⟨by kernel_rfl,_,Try.lays240',YA2,by kernel_rfl⟩
theorem S12:GY fs12:=fun h=>YtG (S11 h) (YB0)
theorem S13:GY fs13:=fun h=>YtI (S12 h) (Yab (i:=60) rfl)
theorem YA3:BldOK Try.prog fm Try.lays169_ren:=⟨Try.bextra169,by kernel_rfl⟩
theorem YB1: ∀f,fm f=151->Yyw Try.prog f=true/\ ∃ρ:Go.Shelf.Ren,Go.Proofs.Lays.n169 Try.prog ρ/\BldOK Try.prog fm ρ/\fm.bu=ρ.t 5/\ρ.f 169=f:=fun f h=>by
  have:=YAg (i:=61) (by kernel_rfl) (by decide) h;subst this
  exact⟨by kernel_rfl,_,Try.lays169',YA3,by kernel_rfl,by kernel_rfl⟩
theorem S14:GY fs14:=fun h=>YtK (S13 h) (YB1)
theorem S15:GY fs15:=fun h=>YtP (S14 h) (Yab (i:=43) rfl)
theorem S16:GY fs16:=fun h=>YtR (S15 h) (Yab (i:=84) rfl)
theorem S17:GY fs17:=fun h=>YtT (S16 h) (Yab (i:=62) rfl)
theorem S18:GY fs18:=fun h=>YtV (S17 h) (Yab (i:=63) rfl)
theorem S19:GY fs19:=fun h=>Yt0 (S18 h) (Yab (i:=45) rfl)
theorem YBR: ∀f,fm f=364->Yyw Try.prog f=true/\ ∃(ρ:Go.Shelf.Ren) (z:List Value),InsL Try.prog ρ z/\z.length=1/\ρ.f 22=f:=fun f h=>by
  have:=YAg (i:=46) (by kernel_rfl) (by decide) h;subst this
  exact⟨by kernel_rfl,_,_,Try.insL,rfl,by kernel_rfl⟩
theorem S20:GY fs20:=fun h=>Yt2 (S19 h) (YBR)
theorem S21:GY fs21:=fun h=>Yt4 (S20 h) (YBR)
theorem S22:GY fs22:=fun h=>Yt6 (S21 h) (Yab (i:=18) rfl)
theorem S23:GY fs23:=fun h=>Yub (S22 h) (Yab (i:=81) rfl)
theorem S24:GY fs24:=fun h=>Yud (S23 h) (Yab (i:=57) rfl)
theorem S25:GY fs25:=fun h=>Yuf (S24 h) (Yab (i:=101) rfl)
theorem S26:GY fs26:=fun h=>Yuh (S25 h) (Yab (i:=77) rfl)
theorem S27:GY fs27:=fun h=>Yuo (S26 h) (Yab (i:=71) rfl)
theorem S28:GY fs28:=fun h=>Yup (S27 h) trivial
theorem S29:GY fs29:=fun h=>Yuq (S28 h) trivial
theorem S30:GY fs30:=fun h=>Yur (S29 h) trivial
theorem S31:GY fs31:=fun h=>Yus (S30 h) trivial
theorem S32:GY fs32:=fun h=>Yut (S31 h) trivial
theorem S33:GY fs33:=fun h=>Yuu (S32 h) trivial
theorem S34:GY fs34:=fun h=>Yuv (S33 h) trivial
theorem S35:GY fs35:=fun h=>YuG (S34 h) (Yab (i:=56) rfl)
theorem S36:GY fs36:=fun h=>YuI (S35 h) (Yab (i:=37) rfl)
theorem YB2: ∀f,fm f=271->Yyw Try.prog f=true/\ ∃ρ:Go.Shelf.Ren,Go.Proofs.Lays.n190 Try.prog ρ/\ρ.f 190=f:=fun f h=>by
  have:=YAg (i:=37) (by kernel_rfl) (by decide) h;subst this
  exact⟨by kernel_rfl,_,Try.lays190,by kernel_rfl⟩
theorem S37:GY fs37:=fun h=>YuK (S36 h) (YB2)
theorem S38:GY fs38:=fun h=>YuM (S37 h) (Yab (i:=38) rfl)
theorem S39:GY fs39:=fun h=>YuT (S38 h) (Yab (i:=15) rfl)
theorem S40:GY fs40:=fun h=>YuY (S39 h) (Yab (i:=26) rfl)
theorem S41:GY fs41:=fun h=>Yu3 (S40 h) (Yab (i:=21) rfl)
theorem S42:GY fs42:=fun h=>Yva (S41 h) (Yab (i:=86) rfl)
theorem S43:GY fs43:=fun h=>Yvb (S42 h) trivial
theorem S44:GY fs44:=fun h=>Yvc (S43 h) trivial
theorem S45:GY fs45:=fun h=>Yvd (S44 h) trivial
theorem S46:GY fs46:=fun h=>Yve (S45 h) trivial
theorem S47:GY fs47:=fun h=>Yvf (S46 h) trivial
theorem S48:GY fs48:=fun h=>Yvg (S47 h) trivial
theorem S49:GY fs49:=fun h=>Yvh (S48 h) trivial
theorem S50:GY fs50:=fun h=>Yvs (S49 h) (Yab (i:=67) rfl)
theorem S51:GY fs51:=fun h=>Yvu (S50 h) (Yab (i:=49) rfl)
theorem YB3: ∀f,fm f=367->Yyw Try.prog f=true/\ ∃ρ:Go.Shelf.Ren,Go.Proofs.SlLaysN.n53 Try.prog ρ/\ρ.f 53=f:=fun f h=>by
  have:=YAg (i:=49) (by kernel_rfl) (by decide) h;subst this
  exact⟨by kernel_rfl,_,Try.sortG,by kernel_rfl⟩
theorem S52:GY fs52:=fun h=>Yvw (S51 h) (YB3)
theorem S53:GY fs53:=fun h=>YvD (S52 h) (Yab (i:=22) rfl)
theorem eqClo: ∀f,fm f=366->EqClo Try.prog f:=fun f h=>by
  have:=YAg (i:=48) (by kernel_rfl) (by decide) h;subst this
  exact Try.eqClo
theorem YB4: ∀f,fm f=365->Yyw Try.prog f=true/\ ∃ρ:Go.Shelf.Ren,Go.Proofs.SlLaysH.n10 Try.prog ρ/\ (∀w,(zeroValue (ρ.t 23)).run Try.prog w= .ok (.int .i64 0) w)/\ (∀f,fm f=366->EqClo Try.prog f)/\ρ.f 10=f:=fun f h=>by
  have:=YAg (i:=47) (by kernel_rfl) (by decide) h;subst this
  exact⟨by kernel_rfl,_,Try.delF,Try.delZ,eqClo,by kernel_rfl⟩
theorem S54:GY fs54:=fun h=>YvF (S53 h) (YB4)
theorem S55:GY fs55:=fun h=>YvH (S54 h) (Yab (i:=20) rfl)
theorem S56:GY fs56:=fun h=>YvJ (S55 h) (Yab (i:=14) rfl)
theorem S57:GY fs57:=fun h=>YvL (S56 h) (Yab (i:=11) rfl)
theorem S58:GY fs58:=fun h=>YvQ (S57 h) (Yab (i:=36) rfl)
theorem S59:GY fs59:=S58
theorem S60:GY fs60:=S59
theorem S61:GY fs61:=fun h=>YvS (S60 h) (Yab (i:=16) rfl)
theorem S62:GY fs62:=fun h=>YvU (S61 h) (Yab (i:=16) rfl)
theorem S63:GY fs63:=fun h=>YvZ (S62 h) (Yab (i:=30) rfl)
theorem S64:GY fs64:=fun h=>Yv1 (S63 h) (Yab (i:=39) rfl)
theorem S65:GY fs65:=fun h=>Yv3 (S64 h) (Yab (i:=54) rfl)
theorem S66:GY fs66:=fun h=>Yv8 (S65 h) (Yab (i:=32) rfl)
theorem S67:GY fs67:=fun h=>Ywa (S66 h) (Yab (i:=19) rfl)
theorem S68:GY fs68:=fun h=>Ywc (S67 h) (Yab (i:=70) rfl)
theorem S69:GY fs69:=fun h=>Ywh (S68 h) (Yab (i:=53) rfl)
theorem S70:GY fs70:=fun h=>Ywm (S69 h) (Yab (i:=25) rfl)
theorem S71:GY fs71:=fun h=>Ywr (S70 h) (Yab (i:=17) rfl)
theorem S72:GY fs72:=S71
theorem S73:GY fs73:=fun h=>Ywt (S72 h) (Yab (i:=69) rfl)
theorem S74:GY fs74:=fun h=>Ywy (S73 h) (Yab (i:=51) rfl)
theorem S75:GY fs75:=fun h=>YwA (S74 h) (Yab (i:=95) rfl)
theorem S76:GY fs76:=fun h=>YwF (S75 h) (Yab (i:=107) rfl)
theorem S77:GY fs77:=fun h=>YwH (S76 h) (Yab (i:=94) rfl)
theorem S78:GY fs78:=fun h=>YwM (S77 h) (Yab (i:=68) rfl)
theorem S79:GY fs79:=fun h=>YwO (S78 h) (Yab (i:=50) rfl)
theorem S80:GY fs80:=S79
theorem S81:GY fs81:=S80
theorem S82:GY fs82:=fun h=>YwT (S81 h) (Yab (i:=34) rfl)
theorem S83:GY fs83:=fun h=>Yw4 (S82 h) (Yab (i:=52) rfl)
theorem S84:GY fs84:=fun h=>Yw6 (S83 h) (Yab (i:=28) rfl)
theorem S85:GY fs85:=fun h=>Yw8 (S84 h) (Yab (i:=31) rfl)
theorem S86:GY fs86:=fun h=>Yxd (S85 h) (Yab (i:=24) rfl)
theorem S87:GY fs87:=S86
theorem S88:GY fs88:=S87
theorem S89:GY fs89:=S88
theorem S90:GY fs90:=S89
theorem S91:GY fs91:=S90
theorem S92:GY fs92:=S91
theorem S93:GY fs93:=S92
theorem S94:GY fs94:=S93
theorem S95:GY fs95:=S94
theorem S96:GY fs96:=fun h=>Yxk (S95 h) (Yab (i:=15) rfl)
theorem S97:GY fs97:=fun h=>Yxp (S96 h) (Yab (i:=58) rfl)
theorem S98:GY fs98:=fun h=>Yxr (S97 h) (Yab (i:=40) rfl)
theorem S99:GY fs99:=fun h=>Yxw (S98 h) (Yab (i:=44) rfl)
theorem S100:GY YAs:=fun h=>Yxy (S99 h) (Yab (i:=18) rfl)
theorem S101:GY YBQ:=fun h=>YxF (S100 h) (Yab (i:=9) rfl)
end Go.Abs.G3m
