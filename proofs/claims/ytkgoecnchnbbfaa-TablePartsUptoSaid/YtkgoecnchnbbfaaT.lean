/- The functions of this seat's program are those of the texts: each is compared by the kernel. No condition. -/
import Derived.Test.YtkgoecnchnbbfaaG
import Derived.Test.YtkgoecnchnbbfaaB
import Derived.Test.YtkgoecnchnbbfaaL
import Derived.Test.YtkgoecnchnbbfaaChecked
set_option linter.unusedVariables false
set_option linter.unusedSimpArgs false
set_option linter.unusedSectionVars false
namespace Go.Abs.G03
open Go Go.Abs Go.Proofs
def fmL : List Nat := [0, 0, 1075, 219, 220, 221, 222, 223, 224, 225, 226, 227, 228, 229, 230, 231, 232, 233, 234, 235, 118, 236, 237, 238, 239, 240, 241, 242, 243, 244, 245, 246, 247, 248, 249, 250, 251, 252, 253, 254, 255, 256, 257, 258, 259, 260, 261, 262, 263, 264, 265, 266, 267, 268, 269, 173, 270, 271, 272, 273, 274, 275, 276, 277, 278, 279, 280, 281, 282, 283, 284, 285, 286, 287, 288, 289, 290, 291, 292, 293, 294, 295, 296, 149, 151, 297, 298, 299, 300, 301, 163, 302, 303, 304, 305, 306, 307, 308, 309, 310, 164, 311, 312, 313, 314, 315, 316, 317, 318, 319, 186, 187, 320, 321, 0, 322, 195, 196, 323, 324, 325, 326, 327, 0, 0, 0, 0, 0, 0, 0, 0, 0, 0, 0, 0, 214, 0, 0, 215, 216, 0]
def fm : FM := { f := fmOf fmL, own := [("value.go:141", 12)], dat := [("ref.go:134", 36)], bt := 105, bu := 5 }
theorem mixed : Try.prog.follows .mixedOrders = true := by kernel_rfl
theorem S0 (lo : Lo) : YwH Try.prog fm ⟨pf, fs0 lo, [], 0⟩ := YrW Try.prog fm pf []
theorem S1 {lo : Lo} (hlo : LoOK lo) : YwH Try.prog fm ⟨pf, fs1 lo, [], 0⟩ := YsP hlo (S0 lo) mixed (Yad (i := 77) rfl (by kernel_rfl) (by decide) (by kernel_rfl))
theorem S2 {lo : Lo} (hlo : LoOK lo) : YwH Try.prog fm ⟨pf, fs2 lo, [], 0⟩ := YsR hlo (S1 hlo) mixed (Yad (i := 78) rfl (by kernel_rfl) (by decide) (by kernel_rfl))
theorem S3 {lo : Lo} (hlo : LoOK lo) : YwH Try.prog fm ⟨pf, fs3 lo, [], 0⟩ := YsT hlo (S2 hlo) mixed (Yad (i := 39) rfl (by kernel_rfl) (by decide) (by kernel_rfl))
theorem S4 {lo : Lo} (hlo : LoOK lo) : YwH Try.prog fm ⟨pf, fs4 lo, [], 0⟩ := YsX hlo (S3 hlo) mixed (Yad (i := 40) rfl (by kernel_rfl) (by decide) (by kernel_rfl))
theorem S5 {lo : Lo} (hlo : LoOK lo) : YwH Try.prog fm ⟨pf, fs5 lo, [], 0⟩ := Ys1 hlo (S4 hlo) mixed (Yad (i := 55) rfl (by kernel_rfl) (by decide) (by kernel_rfl))
theorem S6 {lo : Lo} (hlo : LoOK lo) : YwH Try.prog fm ⟨pf, fs6 lo, [], 0⟩ := Ys3 hlo (S5 hlo) mixed (Yad (i := 41) rfl (by kernel_rfl) (by decide) (by kernel_rfl))
theorem S7 {lo : Lo} (hlo : LoOK lo) : YwH Try.prog fm ⟨pf, fs7 lo, [], 0⟩ := Ys5 hlo (S6 hlo) mixed (Yad (i := 69) rfl (by kernel_rfl) (by decide) (by kernel_rfl))
theorem S8 {lo : Lo} (hlo : LoOK lo) : YwH Try.prog fm ⟨pf, fs8 lo, [], 0⟩ := Ys7 hlo (S7 hlo) mixed (Yad (i := 80) rfl (by kernel_rfl) (by decide) (by kernel_rfl))
theorem S9 {lo : Lo} (hlo : LoOK lo) : YwH Try.prog fm ⟨pf, fs9 lo, [], 0⟩ := Ytb hlo (S8 hlo) mixed (Yad (i := 98) rfl (by kernel_rfl) (by decide) (by kernel_rfl))
theorem S10 {lo : Lo} (hlo : LoOK lo) : YwH Try.prog fm ⟨pf, fs10 lo, [], 0⟩ := Ytd hlo (S9 hlo) mixed (Yad (i := 79) rfl (by kernel_rfl) (by decide) (by kernel_rfl))
theorem S11 {lo : Lo} (hlo : LoOK lo) : YwH Try.prog fm ⟨pf, fs11 lo, [], 0⟩ := Ytf hlo (S10 hlo) mixed (Yad (i := 42) rfl (by kernel_rfl) (by decide) (by kernel_rfl))
theorem S12 {lo : Lo} (hlo : LoOK lo) : YwH Try.prog fm ⟨pf, fs12 lo, [], 0⟩ := Ytl hlo (S11 hlo) mixed (Yad (i := 14) rfl (by kernel_rfl) (by decide) (by kernel_rfl))
theorem S13 {lo : Lo} (hlo : LoOK lo) : YwH Try.prog fm ⟨pf, fs13 lo, [], 0⟩ := Ytp hlo (S12 hlo) mixed (Yad (i := 99) rfl (by kernel_rfl) (by decide) (by kernel_rfl))
theorem S14 {lo : Lo} (hlo : LoOK lo) : YwH Try.prog fm ⟨pf, fs14 lo, [], 0⟩ := Ytv hlo (S13 hlo) mixed (Yad (i := 82) rfl (by kernel_rfl) (by decide) (by kernel_rfl))
theorem Yzo {g i f : Nat} (h : YxX g fmL i 0 = true) (hg : g ≠ 0) (hf : fm f = g) : f = i := YlU h hg hf
theorem YyU : BldOK Try.prog fm Try.lays240_ren := ⟨Try.bextra240, by kernel_rfl⟩
theorem YzF : ∀ f, fm f = 164 -> YwM Try.prog f = true /\ ∃ ρ : Go.Shelf.Ren, Go.Proofs.Lays.n240 Try.prog ρ /\ BldOK Try.prog fm ρ /\ ρ.f 240 = f := fun f h => by
  have := Yzo (i := 100) (by kernel_rfl) (by decide) h; subst this
  exact ⟨by kernel_rfl, _, Try.lays240', YyU, by kernel_rfl⟩
theorem S15 {lo : Lo} (hlo : LoOK lo) : YwH Try.prog fm ⟨pf, fs15 lo, [], 0⟩ := Ytw hlo (S14 hlo) mixed (YzF)
theorem S16 {lo : Lo} (hlo : LoOK lo) : YwH Try.prog fm ⟨pf, fs16 lo, [], 0⟩ := Yty hlo (S15 hlo) mixed (Yad (i := 83) rfl (by kernel_rfl) (by decide) (by kernel_rfl))
theorem YyV : BldOK Try.prog fm Try.lays169_ren := ⟨Try.bextra169, by kernel_rfl⟩
theorem YzG : ∀ f, fm f = 151 -> YwM Try.prog f = true /\ ∃ ρ : Go.Shelf.Ren, Go.Proofs.Lays.n169 Try.prog ρ /\ BldOK Try.prog fm ρ /\ fm.bu = ρ.t 5 /\ ρ.f 169 = f := fun f h => by
  have := Yzo (i := 84) (by kernel_rfl) (by decide) h; subst this
  exact ⟨by kernel_rfl, _, Try.lays169', YyV, by kernel_rfl, by kernel_rfl⟩
theorem S17 {lo : Lo} (hlo : LoOK lo) : YwH Try.prog fm ⟨pf, fs17 lo, [], 0⟩ := Ytz hlo (S16 hlo) mixed (YzG)
theorem S18 {lo : Lo} (hlo : LoOK lo) : YwH Try.prog fm ⟨pf, fs18 lo, [], 0⟩ := YtD hlo (S17 hlo) mixed (Yad (i := 46) rfl (by kernel_rfl) (by decide) (by kernel_rfl))
theorem S19 {lo : Lo} (hlo : LoOK lo) : YwH Try.prog fm ⟨pf, fs19 lo, [], 0⟩ := YtL hlo (S18 hlo) mixed (Yad (i := 17) rfl (by kernel_rfl) (by decide) (by kernel_rfl))
theorem S20 {lo : Lo} (hlo : LoOK lo) : YwH Try.prog fm ⟨pf, fs20 lo, [], 0⟩ := YtM hlo (S19 hlo) mixed (Yad (i := 54) rfl (by kernel_rfl) (by decide) (by kernel_rfl))
theorem S21 {lo : Lo} (hlo : LoOK lo) : YwH Try.prog fm ⟨pf, fs21 lo, [], 0⟩ := YtQ hlo (S20 hlo) mixed (Yad (i := 56) rfl (by kernel_rfl) (by decide) (by kernel_rfl))
theorem S22 {lo : Lo} (hlo : LoOK lo) : YwH Try.prog fm ⟨pf, fs22 lo, [], 0⟩ := YtU hlo (S21 hlo) mixed (Yad (i := 111) rfl (by kernel_rfl) (by decide) (by kernel_rfl))
theorem S23 {lo : Lo} (hlo : LoOK lo) : YwH Try.prog fm ⟨pf, fs23 lo, [], 0⟩ := YtW hlo (S22 hlo) mixed (Yad (i := 90) rfl (by kernel_rfl) (by decide) (by kernel_rfl))
theorem S24 {lo : Lo} (hlo : LoOK lo) : YwH Try.prog fm ⟨pf, fs24 lo, [], 0⟩ := YtY hlo (S23 hlo) mixed (Yad (i := 120) rfl (by kernel_rfl) (by decide) (by kernel_rfl))
theorem S25 {lo : Lo} (hlo : LoOK lo) : YwH Try.prog fm ⟨pf, fs25 lo, [], 0⟩ := Yt0 hlo (S24 hlo) mixed (Yad (i := 107) rfl (by kernel_rfl) (by decide) (by kernel_rfl))
theorem S26 {lo : Lo} (hlo : LoOK lo) : YwH Try.prog fm ⟨pf, fs26 lo, [], 0⟩ := Yt6 hlo (S25 hlo) mixed (Yad (i := 101) rfl (by kernel_rfl) (by decide) (by kernel_rfl))
theorem S27 {lo : Lo} (hlo : LoOK lo) : YwH Try.prog fm ⟨pf, fs27 lo, [], 0⟩ := Yt7 hlo (S26 hlo) mixed trivial
theorem S28 {lo : Lo} (hlo : LoOK lo) : YwH Try.prog fm ⟨pf, fs28 lo, [], 0⟩ := Yt8 hlo (S27 hlo) mixed trivial
theorem S29 {lo : Lo} (hlo : LoOK lo) : YwH Try.prog fm ⟨pf, fs29 lo, [], 0⟩ := Yt9 hlo (S28 hlo) mixed trivial
theorem S30 {lo : Lo} (hlo : LoOK lo) : YwH Try.prog fm ⟨pf, fs30 lo, [], 0⟩ := Yua hlo (S29 hlo) mixed trivial
theorem S31 {lo : Lo} (hlo : LoOK lo) : YwH Try.prog fm ⟨pf, fs31 lo, [], 0⟩ := Yub hlo (S30 hlo) mixed trivial
theorem S32 {lo : Lo} (hlo : LoOK lo) : YwH Try.prog fm ⟨pf, fs32 lo, [], 0⟩ := Yuc hlo (S31 hlo) mixed trivial
theorem S33 {lo : Lo} (hlo : LoOK lo) : YwH Try.prog fm ⟨pf, fs33 lo, [], 0⟩ := Yud hlo (S32 hlo) mixed trivial
theorem S34 {lo : Lo} (hlo : LoOK lo) : YwH Try.prog fm ⟨pf, fs34 lo, [], 0⟩ := Yun hlo (S33 hlo) mixed (Yad (i := 89) rfl (by kernel_rfl) (by decide) (by kernel_rfl))
theorem S35 {lo : Lo} (hlo : LoOK lo) : YwH Try.prog fm ⟨pf, fs35 lo, [], 0⟩ := Yup hlo (S34 hlo) mixed (Yad (i := 57) rfl (by kernel_rfl) (by decide) (by kernel_rfl))
theorem YzH : ∀ f, fm f = 271 -> YwM Try.prog f = true /\ ∃ ρ : Go.Shelf.Ren, Go.Proofs.Lays.n190 Try.prog ρ /\ ρ.f 190 = f := fun f h => by
  have := Yzo (i := 57) (by kernel_rfl) (by decide) h; subst this
  exact ⟨by kernel_rfl, _, Try.lays190, by kernel_rfl⟩
theorem S36 {lo : Lo} (hlo : LoOK lo) : YwH Try.prog fm ⟨pf, fs36 lo, [], 0⟩ := Yuq hlo (S35 hlo) mixed (YzH)
theorem S37 {lo : Lo} (hlo : LoOK lo) : YwH Try.prog fm ⟨pf, fs37 lo, [], 0⟩ := YuF hlo (S36 hlo) mixed (Yad (i := 22) rfl (by kernel_rfl) (by decide) (by kernel_rfl))
theorem S38 {lo : Lo} (hlo : LoOK lo) : YwH Try.prog fm ⟨pf, fs38 lo, [], 0⟩ := YuJ hlo (S37 hlo) mixed (Yad (i := 52) rfl (by kernel_rfl) (by decide) (by kernel_rfl))
theorem S39 {lo : Lo} (hlo : LoOK lo) : YwH Try.prog fm ⟨pf, fs39 lo, [], 0⟩ := YuN hlo (S38 hlo) mixed (Yad (i := 88) rfl (by kernel_rfl) (by decide) (by kernel_rfl))
theorem S40 {lo : Lo} (hlo : LoOK lo) : YwH Try.prog fm ⟨pf, fs40 lo, [], 0⟩ := YuP hlo (S39 hlo) mixed (Yad (i := 87) rfl (by kernel_rfl) (by decide) (by kernel_rfl))
theorem S41 {lo : Lo} (hlo : LoOK lo) : YwH Try.prog fm ⟨pf, fs41 lo, [], 0⟩ := YuT hlo (S40 hlo) mixed (Yad (i := 63) rfl (by kernel_rfl) (by decide) (by kernel_rfl))
theorem S42 {lo : Lo} (hlo : LoOK lo) : YwH Try.prog fm ⟨pf, fs42 lo, [], 0⟩ := YuV hlo (S41 hlo) mixed (Yad (i := 86) rfl (by kernel_rfl) (by decide) (by kernel_rfl))
theorem S43 {lo : Lo} (hlo : LoOK lo) : YwH Try.prog fm ⟨pf, fs43 lo, [], 0⟩ := YuZ hlo (S42 hlo) mixed (Yad (i := 53) rfl (by kernel_rfl) (by decide) (by kernel_rfl))
theorem S44 {lo : Lo} (hlo : LoOK lo) : YwH Try.prog fm ⟨pf, fs44 lo, [], 0⟩ := Yu1 hlo (S43 hlo) mixed (Yad (i := 21) rfl (by kernel_rfl) (by decide) (by kernel_rfl))
theorem S45 {lo : Lo} (hlo : LoOK lo) : YwH Try.prog fm ⟨pf, fs45 lo, [], 0⟩ := Yu3 hlo (S44 hlo) mixed (Yad (i := 13) rfl (by kernel_rfl) (by decide) (by kernel_rfl))
theorem S46 {lo : Lo} (hlo : LoOK lo) : YwH Try.prog fm ⟨pf, fs46 lo, [], 0⟩ := S45 hlo
theorem S47 {lo : Lo} (hlo : LoOK lo) : YwH Try.prog fm ⟨pf, fs47 lo, [], 0⟩ := S46 hlo
theorem S48 {lo : Lo} (hlo : LoOK lo) : YwH Try.prog fm ⟨pf, fs48 lo, [], 0⟩ := Yu7 hlo (S47 hlo) mixed (Yad (i := 58) rfl (by kernel_rfl) (by decide) (by kernel_rfl))
theorem S49 {lo : Lo} (hlo : LoOK lo) : YwH Try.prog fm ⟨pf, fs49 lo, [], 0⟩ := S48 hlo
theorem S50 {lo : Lo} (hlo : LoOK lo) : YwH Try.prog fm ⟨pf, fs50 lo, [], 0⟩ := S49 hlo
theorem S51 {lo : Lo} (hlo : LoOK lo) : YwH Try.prog fm ⟨pf, fs51 lo, [], 0⟩ := S50 hlo
theorem S52 {lo : Lo} (hlo : LoOK lo) : YwH Try.prog fm ⟨pf, fs52 lo, [], 0⟩ := S51 hlo
theorem S53 {lo : Lo} (hlo : LoOK lo) : YwH Try.prog fm ⟨pf, fs53 lo, [], 0⟩ := S52 hlo
theorem S54 {lo : Lo} (hlo : LoOK lo) : YwH Try.prog fm ⟨pf, fs54 lo, [], 0⟩ := S53 hlo
theorem S55 {lo : Lo} (hlo : LoOK lo) : YwH Try.prog fm ⟨pf, fs55 lo, [], 0⟩ := Yvb hlo (S54 hlo) mixed (Yad (i := 20) rfl (by kernel_rfl) (by decide) (by kernel_rfl))
theorem S56 {lo : Lo} (hlo : LoOK lo) : YwH Try.prog fm ⟨pf, fs56 lo, [], 0⟩ := S55 hlo
theorem S57 {lo : Lo} (hlo : LoOK lo) : YwH Try.prog fm ⟨pf, fs57 lo, [], 0⟩ := S56 hlo
theorem S58 {lo : Lo} (hlo : LoOK lo) : YwH Try.prog fm ⟨pf, fs58 lo, [], 0⟩ := Yvd hlo (S57 hlo) mixed (Yad (i := 92) rfl (by kernel_rfl) (by decide) (by kernel_rfl))
theorem S59 {lo : Lo} (hlo : LoOK lo) : YwH Try.prog fm ⟨pf, fs59 lo, [], 0⟩ := Yvh hlo (S58 hlo) mixed (Yad (i := 112) rfl (by kernel_rfl) (by decide) (by kernel_rfl))
theorem S60 {lo : Lo} (hlo : LoOK lo) : YwH Try.prog fm ⟨pf, fs60 lo, [], 0⟩ := Yvj hlo (S59 hlo) mixed (Yad (i := 91) rfl (by kernel_rfl) (by decide) (by kernel_rfl))
theorem S61 {lo : Lo} (hlo : LoOK lo) : YwH Try.prog fm ⟨pf, fs61 lo, [], 0⟩ := S60 hlo
theorem S62 {lo : Lo} (hlo : LoOK lo) : YwH Try.prog fm ⟨pf, fs62 lo, [], 0⟩ := S61 hlo
theorem S63 {lo : Lo} (hlo : LoOK lo) : YwH Try.prog fm ⟨pf, fs63 lo, [], 0⟩ := S62 hlo
theorem S64 {lo : Lo} (hlo : LoOK lo) : YwH Try.prog fm ⟨pf, fs64 lo, [], 0⟩ := S63 hlo
theorem S65 {lo : Lo} (hlo : LoOK lo) : YwH Try.prog fm ⟨pf, fs65 lo, [], 0⟩ := S64 hlo
theorem S66 {lo : Lo} (hlo : LoOK lo) : YwH Try.prog fm ⟨pf, fs66 lo, [], 0⟩ := S65 hlo
theorem S67 {lo : Lo} (hlo : LoOK lo) : YwH Try.prog fm ⟨pf, fs67 lo, [], 0⟩ := S66 hlo
theorem S68 {lo : Lo} (hlo : LoOK lo) : YwH Try.prog fm ⟨pf, fs68 lo, [], 0⟩ := S67 hlo
theorem S69 {lo : Lo} (hlo : LoOK lo) : YwH Try.prog fm ⟨pf, fs69 lo, [], 0⟩ := Yvn hlo (S68 hlo) mixed (Yad (i := 59) rfl (by kernel_rfl) (by decide) (by kernel_rfl))
theorem S70 {lo : Lo} (hlo : LoOK lo) : YwH Try.prog fm ⟨pf, fs70 lo, [], 0⟩ := S69 hlo
theorem S71 {lo : Lo} (hlo : LoOK lo) : YwH Try.prog fm ⟨pf, fs71 lo, [], 0⟩ := S70 hlo
theorem S72 {lo : Lo} (hlo : LoOK lo) : YwH Try.prog fm ⟨pf, fs72 lo, [], 0⟩ := Yvp hlo (S71 hlo) mixed (Yad (i := 36) rfl (by kernel_rfl) (by decide) (by kernel_rfl))
theorem S73 {lo : Lo} (hlo : LoOK lo) : YwH Try.prog fm ⟨pf, fs73 lo, [], 0⟩ := Yvv hlo (S72 hlo) mixed (Yad (i := 61) rfl (by kernel_rfl) (by decide) (by kernel_rfl))
theorem S74 {lo : Lo} (hlo : LoOK lo) : YwH Try.prog fm ⟨pf, fs74 lo, [], 0⟩ := Yvx hlo (S73 hlo) mixed (Yad (i := 24) rfl (by kernel_rfl) (by decide) (by kernel_rfl))
theorem S75 {lo : Lo} (hlo : LoOK lo) : YwH Try.prog fm ⟨pf, fs75 lo, [], 0⟩ := YvD hlo (S74 hlo) mixed (Yad (i := 25) rfl (by kernel_rfl) (by decide) (by kernel_rfl))
theorem S76 {lo : Lo} (hlo : LoOK lo) : YwH Try.prog fm ⟨pf, fs76 lo, [], 0⟩ := YvF hlo (S75 hlo) mixed (Yad (i := 6) rfl (by kernel_rfl) (by decide) (by kernel_rfl))
end Go.Abs.G03
