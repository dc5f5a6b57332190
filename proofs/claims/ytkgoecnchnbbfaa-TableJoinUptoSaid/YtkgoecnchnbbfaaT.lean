/- The functions of this seat's program are those of the texts: each is compared by the kernel. No condition. -/
import Derived.Test.YtkgoecnchnbbfaaG
import Derived.Test.YtkgoecnchnbbfaaB
import Derived.Test.YtkgoecnchnbbfaaL
import Derived.Test.YtkgoecnchnbbfaaChecked
set_option linter.unusedVariables false
set_option linter.unusedSimpArgs false
set_option linter.unusedSectionVars false
namespace Go.Abs.G03
open Go Go.Abs Go.Proofs
def fmL : List Nat := [0, 0, 1075, 219, 220, 221, 222, 223, 224, 225, 226, 227, 228, 229, 230, 231, 232, 233, 234, 235, 118, 236, 237, 238, 239, 240, 241, 242, 243, 244, 245, 246, 247, 248, 249, 250, 251, 252, 253, 254, 255, 256, 257, 258, 259, 260, 261, 262, 263, 264, 265, 266, 267, 268, 269, 173, 270, 271, 272, 273, 274, 275, 276, 277, 278, 279, 280, 281, 282, 283, 284, 285, 286, 287, 288, 289, 290, 291, 292, 293, 294, 295, 296, 149, 151, 297, 298, 299, 300, 301, 163, 302, 303, 304, 305, 306, 307, 308, 309, 310, 164, 311, 312, 313, 314, 315, 316, 317, 318, 319, 186, 187, 320, 321, 0, 322, 195, 196, 323, 324, 325, 326, 327, 0, 0, 0, 0, 0, 0, 0, 0, 0, 0, 0, 0, 214, 0, 0, 215, 216, 0]
def fm : FM := { f := fmOf fmL, own := [("value.go:141", 12)], dat := [("ref.go:134", 36)], bt := 105, bu := 5 }
theorem mixed : Try.prog.follows .mixedOrders = true := by kernel_rfl
theorem S0 (lo : Lo) : Yx2 Try.prog fm ⟨pf, fs0 lo, [], 0⟩ := YsY Try.prog fm pf []
theorem S1 {lo : Lo} (hlo : LoOK lo) : Yx2 Try.prog fm ⟨pf, fs1 lo, [], 0⟩ := YtR hlo (S0 lo) mixed (Yab (i := 77) rfl (by kernel_rfl) (by decide) (by kernel_rfl))
theorem S2 {lo : Lo} (hlo : LoOK lo) : Yx2 Try.prog fm ⟨pf, fs2 lo, [], 0⟩ := YtT hlo (S1 hlo) mixed (Yab (i := 78) rfl (by kernel_rfl) (by decide) (by kernel_rfl))
theorem S3 {lo : Lo} (hlo : LoOK lo) : Yx2 Try.prog fm ⟨pf, fs3 lo, [], 0⟩ := YtV hlo (S2 hlo) mixed (Yab (i := 39) rfl (by kernel_rfl) (by decide) (by kernel_rfl))
theorem S4 {lo : Lo} (hlo : LoOK lo) : Yx2 Try.prog fm ⟨pf, fs4 lo, [], 0⟩ := YtZ hlo (S3 hlo) mixed (Yab (i := 40) rfl (by kernel_rfl) (by decide) (by kernel_rfl))
theorem S5 {lo : Lo} (hlo : LoOK lo) : Yx2 Try.prog fm ⟨pf, fs5 lo, [], 0⟩ := Yt3 hlo (S4 hlo) mixed (Yab (i := 55) rfl (by kernel_rfl) (by decide) (by kernel_rfl))
theorem S6 {lo : Lo} (hlo : LoOK lo) : Yx2 Try.prog fm ⟨pf, fs6 lo, [], 0⟩ := Yt5 hlo (S5 hlo) mixed (Yab (i := 41) rfl (by kernel_rfl) (by decide) (by kernel_rfl))
theorem S7 {lo : Lo} (hlo : LoOK lo) : Yx2 Try.prog fm ⟨pf, fs7 lo, [], 0⟩ := Yt7 hlo (S6 hlo) mixed (Yab (i := 69) rfl (by kernel_rfl) (by decide) (by kernel_rfl))
theorem S8 {lo : Lo} (hlo : LoOK lo) : Yx2 Try.prog fm ⟨pf, fs8 lo, [], 0⟩ := Yt9 hlo (S7 hlo) mixed (Yab (i := 80) rfl (by kernel_rfl) (by decide) (by kernel_rfl))
theorem S9 {lo : Lo} (hlo : LoOK lo) : Yx2 Try.prog fm ⟨pf, fs9 lo, [], 0⟩ := Yud hlo (S8 hlo) mixed (Yab (i := 98) rfl (by kernel_rfl) (by decide) (by kernel_rfl))
theorem S10 {lo : Lo} (hlo : LoOK lo) : Yx2 Try.prog fm ⟨pf, fs10 lo, [], 0⟩ := Yuf hlo (S9 hlo) mixed (Yab (i := 79) rfl (by kernel_rfl) (by decide) (by kernel_rfl))
theorem S11 {lo : Lo} (hlo : LoOK lo) : Yx2 Try.prog fm ⟨pf, fs11 lo, [], 0⟩ := Yuh hlo (S10 hlo) mixed (Yab (i := 42) rfl (by kernel_rfl) (by decide) (by kernel_rfl))
theorem S12 {lo : Lo} (hlo : LoOK lo) : Yx2 Try.prog fm ⟨pf, fs12 lo, [], 0⟩ := Yun hlo (S11 hlo) mixed (Yab (i := 14) rfl (by kernel_rfl) (by decide) (by kernel_rfl))
theorem S13 {lo : Lo} (hlo : LoOK lo) : Yx2 Try.prog fm ⟨pf, fs13 lo, [], 0⟩ := Yur hlo (S12 hlo) mixed (Yab (i := 99) rfl (by kernel_rfl) (by decide) (by kernel_rfl))
theorem S14 {lo : Lo} (hlo : LoOK lo) : Yx2 Try.prog fm ⟨pf, fs14 lo, [], 0⟩ := Yux hlo (S13 hlo) mixed (Yab (i := 82) rfl (by kernel_rfl) (by decide) (by kernel_rfl))
theorem YAK {g i f : Nat} (h : Yzj g fmL i 0 = true) (hg : g ≠ 0) (hf : fm f = g) : f = i := Ymw h hg hf
theorem YAh : BldOK Try.prog fm Try.lays240_ren := ⟨Try.bextra240, by kernel_rfl⟩
theorem YA4 : ∀ f, fm f = 164 -> Yx8 Try.prog f = true /\ ∃ ρ : Go.Shelf.Ren, Go.Proofs.Lays.n240 Try.prog ρ /\ BldOK Try.prog fm ρ /\ ρ.f 240 = f := fun f h => by
  have := YAK (i := 100) (by kernel_rfl) (by decide) h; subst this
  exact ⟨by kernel_rfl, _, Try.lays240', YAh, by kernel_rfl⟩
theorem S15 {lo : Lo} (hlo : LoOK lo) : Yx2 Try.prog fm ⟨pf, fs15 lo, [], 0⟩ := Yuy hlo (S14 hlo) mixed (YA4)
theorem S16 {lo : Lo} (hlo : LoOK lo) : Yx2 Try.prog fm ⟨pf, fs16 lo, [], 0⟩ := YuA hlo (S15 hlo) mixed (Yab (i := 83) rfl (by kernel_rfl) (by decide) (by kernel_rfl))
theorem YAi : BldOK Try.prog fm Try.lays169_ren := ⟨Try.bextra169, by kernel_rfl⟩
theorem YA5 : ∀ f, fm f = 151 -> Yx8 Try.prog f = true /\ ∃ ρ : Go.Shelf.Ren, Go.Proofs.Lays.n169 Try.prog ρ /\ BldOK Try.prog fm ρ /\ fm.bu = ρ.t 5 /\ ρ.f 169 = f := fun f h => by
  have := YAK (i := 84) (by kernel_rfl) (by decide) h; subst this
  exact ⟨by kernel_rfl, _, Try.lays169', YAi, by kernel_rfl, by kernel_rfl⟩
theorem S17 {lo : Lo} (hlo : LoOK lo) : Yx2 Try.prog fm ⟨pf, fs17 lo, [], 0⟩ := YuB hlo (S16 hlo) mixed (YA5)
theorem S18 {lo : Lo} (hlo : LoOK lo) : Yx2 Try.prog fm ⟨pf, fs18 lo, [], 0⟩ := YuF hlo (S17 hlo) mixed (Yab (i := 46) rfl (by kernel_rfl) (by decide) (by kernel_rfl))
theorem S19 {lo : Lo} (hlo : LoOK lo) : Yx2 Try.prog fm ⟨pf, fs19 lo, [], 0⟩ := YuN hlo (S18 hlo) mixed (Yab (i := 17) rfl (by kernel_rfl) (by decide) (by kernel_rfl))
theorem S20 {lo : Lo} (hlo : LoOK lo) : Yx2 Try.prog fm ⟨pf, fs20 lo, [], 0⟩ := YuO hlo (S19 hlo) mixed (Yab (i := 54) rfl (by kernel_rfl) (by decide) (by kernel_rfl))
theorem S21 {lo : Lo} (hlo : LoOK lo) : Yx2 Try.prog fm ⟨pf, fs21 lo, [], 0⟩ := YuS hlo (S20 hlo) mixed (Yab (i := 56) rfl (by kernel_rfl) (by decide) (by kernel_rfl))
theorem S22 {lo : Lo} (hlo : LoOK lo) : Yx2 Try.prog fm ⟨pf, fs22 lo, [], 0⟩ := YuW hlo (S21 hlo) mixed (Yab (i := 111) rfl (by kernel_rfl) (by decide) (by kernel_rfl))
theorem S23 {lo : Lo} (hlo : LoOK lo) : Yx2 Try.prog fm ⟨pf, fs23 lo, [], 0⟩ := YuY hlo (S22 hlo) mixed (Yab (i := 90) rfl (by kernel_rfl) (by decide) (by kernel_rfl))
theorem S24 {lo : Lo} (hlo : LoOK lo) : Yx2 Try.prog fm ⟨pf, fs24 lo, [], 0⟩ := Yu0 hlo (S23 hlo) mixed (Yab (i := 120) rfl (by kernel_rfl) (by decide) (by kernel_rfl))
theorem S25 {lo : Lo} (hlo : LoOK lo) : Yx2 Try.prog fm ⟨pf, fs25 lo, [], 0⟩ := Yu2 hlo (S24 hlo) mixed (Yab (i := 107) rfl (by kernel_rfl) (by decide) (by kernel_rfl))
theorem S26 {lo : Lo} (hlo : LoOK lo) : Yx2 Try.prog fm ⟨pf, fs26 lo, [], 0⟩ := Yu8 hlo (S25 hlo) mixed (Yab (i := 101) rfl (by kernel_rfl) (by decide) (by kernel_rfl))
theorem S27 {lo : Lo} (hlo : LoOK lo) : Yx2 Try.prog fm ⟨pf, fs27 lo, [], 0⟩ := Yu9 hlo (S26 hlo) mixed trivial
theorem S28 {lo : Lo} (hlo : LoOK lo) : Yx2 Try.prog fm ⟨pf, fs28 lo, [], 0⟩ := Yva hlo (S27 hlo) mixed trivial
theorem S29 {lo : Lo} (hlo : LoOK lo) : Yx2 Try.prog fm ⟨pf, fs29 lo, [], 0⟩ := Yvb hlo (S28 hlo) mixed trivial
theorem S30 {lo : Lo} (hlo : LoOK lo) : Yx2 Try.prog fm ⟨pf, fs30 lo, [], 0⟩ := Yvc hlo (S29 hlo) mixed trivial
theorem S31 {lo : Lo} (hlo : LoOK lo) : Yx2 Try.prog fm ⟨pf, fs31 lo, [], 0⟩ := Yvd hlo (S30 hlo) mixed trivial
theorem S32 {lo : Lo} (hlo : LoOK lo) : Yx2 Try.prog fm ⟨pf, fs32 lo, [], 0⟩ := Yve hlo (S31 hlo) mixed trivial
theorem S33 {lo : Lo} (hlo : LoOK lo) : Yx2 Try.prog fm ⟨pf, fs33 lo, [], 0⟩ := Yvf hlo (S32 hlo) mixed trivial
theorem S34 {lo : Lo} (hlo : LoOK lo) : Yx2 Try.prog fm ⟨pf, fs34 lo, [], 0⟩ := Yvp hlo (S33 hlo) mixed (Yab (i := 89) rfl (by kernel_rfl) (by decide) (by kernel_rfl))
theorem S35 {lo : Lo} (hlo : LoOK lo) : Yx2 Try.prog fm ⟨pf, fs35 lo, [], 0⟩ := Yvr hlo (S34 hlo) mixed (Yab (i := 57) rfl (by kernel_rfl) (by decide) (by kernel_rfl))
theorem YA6 : ∀ f, fm f = 271 -> Yx8 Try.prog f = true /\ ∃ ρ : Go.Shelf.Ren, Go.Proofs.Lays.n190 Try.prog ρ /\ ρ.f 190 = f := fun f h => by
  have := YAK (i := 57) (by kernel_rfl) (by decide) h; subst this
  exact ⟨by kernel_rfl, _, Try.lays190, by kernel_rfl⟩
theorem S36 {lo : Lo} (hlo : LoOK lo) : Yx2 Try.prog fm ⟨pf, fs36 lo, [], 0⟩ := Yvs hlo (S35 hlo) mixed (YA6)
theorem S37 {lo : Lo} (hlo : LoOK lo) : Yx2 Try.prog fm ⟨pf, fs37 lo, [], 0⟩ := YvH hlo (S36 hlo) mixed (Yab (i := 22) rfl (by kernel_rfl) (by decide) (by kernel_rfl))
theorem S38 {lo : Lo} (hlo : LoOK lo) : Yx2 Try.prog fm ⟨pf, fs38 lo, [], 0⟩ := YvL hlo (S37 hlo) mixed (Yab (i := 52) rfl (by kernel_rfl) (by decide) (by kernel_rfl))
theorem S39 {lo : Lo} (hlo : LoOK lo) : Yx2 Try.prog fm ⟨pf, fs39 lo, [], 0⟩ := YvP hlo (S38 hlo) mixed (Yab (i := 88) rfl (by kernel_rfl) (by decide) (by kernel_rfl))
theorem S40 {lo : Lo} (hlo : LoOK lo) : Yx2 Try.prog fm ⟨pf, fs40 lo, [], 0⟩ := YvR hlo (S39 hlo) mixed (Yab (i := 87) rfl (by kernel_rfl) (by decide) (by kernel_rfl))
theorem S41 {lo : Lo} (hlo : LoOK lo) : Yx2 Try.prog fm ⟨pf, fs41 lo, [], 0⟩ := YvV hlo (S40 hlo) mixed (Yab (i := 63) rfl (by kernel_rfl) (by decide) (by kernel_rfl))
theorem S42 {lo : Lo} (hlo : LoOK lo) : Yx2 Try.prog fm ⟨pf, fs42 lo, [], 0⟩ := YvX hlo (S41 hlo) mixed (Yab (i := 86) rfl (by kernel_rfl) (by decide) (by kernel_rfl))
theorem S43 {lo : Lo} (hlo : LoOK lo) : Yx2 Try.prog fm ⟨pf, fs43 lo, [], 0⟩ := Yv1 hlo (S42 hlo) mixed (Yab (i := 53) rfl (by kernel_rfl) (by decide) (by kernel_rfl))
theorem S44 {lo : Lo} (hlo : LoOK lo) : Yx2 Try.prog fm ⟨pf, fs44 lo, [], 0⟩ := Yv3 hlo (S43 hlo) mixed (Yab (i := 21) rfl (by kernel_rfl) (by decide) (by kernel_rfl))
theorem S45 {lo : Lo} (hlo : LoOK lo) : Yx2 Try.prog fm ⟨pf, fs45 lo, [], 0⟩ := Yv5 hlo (S44 hlo) mixed (Yab (i := 13) rfl (by kernel_rfl) (by decide) (by kernel_rfl))
theorem S46 {lo : Lo} (hlo : LoOK lo) : Yx2 Try.prog fm ⟨pf, fs46 lo, [], 0⟩ := Yv7 hlo (S45 hlo) mixed (Yab (i := 81) rfl (by kernel_rfl) (by decide) (by kernel_rfl))
theorem S47 {lo : Lo} (hlo : LoOK lo) : Yx2 Try.prog fm ⟨pf, fs47 lo, [], 0⟩ := Ywb hlo (S46 hlo) mixed (Yab (i := 43) rfl (by kernel_rfl) (by decide) (by kernel_rfl))
theorem S48 {lo : Lo} (hlo : LoOK lo) : Yx2 Try.prog fm ⟨pf, fs48 lo, [], 0⟩ := Ywf hlo (S47 hlo) mixed (Yab (i := 58) rfl (by kernel_rfl) (by decide) (by kernel_rfl))
theorem S49 {lo : Lo} (hlo : LoOK lo) : Yx2 Try.prog fm ⟨pf, fs49 lo, [], 0⟩ := Ywj hlo (S48 hlo) mixed (Yab (i := 44) rfl (by kernel_rfl) (by decide) (by kernel_rfl))
theorem S50 {lo : Lo} (hlo : LoOK lo) : Yx2 Try.prog fm ⟨pf, fs50 lo, [], 0⟩ := Ywl hlo (S49 hlo) mixed (Yab (i := 70) rfl (by kernel_rfl) (by decide) (by kernel_rfl))
theorem S51 {lo : Lo} (hlo : LoOK lo) : Yx2 Try.prog fm ⟨pf, fs51 lo, [], 0⟩ := Ywp hlo (S50 hlo) mixed (Yab (i := 45) rfl (by kernel_rfl) (by decide) (by kernel_rfl))
theorem S52 {lo : Lo} (hlo : LoOK lo) : Yx2 Try.prog fm ⟨pf, fs52 lo, [], 0⟩ := Ywt hlo (S51 hlo) mixed (Yab (i := 15) rfl (by kernel_rfl) (by decide) (by kernel_rfl))
theorem S53 {lo : Lo} (hlo : LoOK lo) : Yx2 Try.prog fm ⟨pf, fs53 lo, [], 0⟩ := S52 hlo
theorem S54 {lo : Lo} (hlo : LoOK lo) : Yx2 Try.prog fm ⟨pf, fs54 lo, [], 0⟩ := Ywv hlo (S53 hlo) mixed (Yab (i := 16) rfl (by kernel_rfl) (by decide) (by kernel_rfl))
theorem S55 {lo : Lo} (hlo : LoOK lo) : Yx2 Try.prog fm ⟨pf, fs55 lo, [], 0⟩ := S54 hlo
theorem S56 {lo : Lo} (hlo : LoOK lo) : Yx2 Try.prog fm ⟨pf, fs56 lo, [], 0⟩ := S55 hlo
theorem S57 {lo : Lo} (hlo : LoOK lo) : Yx2 Try.prog fm ⟨pf, fs57 lo, [], 0⟩ := S56 hlo
theorem S58 {lo : Lo} (hlo : LoOK lo) : Yx2 Try.prog fm ⟨pf, fs58 lo, [], 0⟩ := Ywx hlo (S57 hlo) mixed (Yab (i := 92) rfl (by kernel_rfl) (by decide) (by kernel_rfl))
theorem S59 {lo : Lo} (hlo : LoOK lo) : Yx2 Try.prog fm ⟨pf, fs59 lo, [], 0⟩ := YwB hlo (S58 hlo) mixed (Yab (i := 112) rfl (by kernel_rfl) (by decide) (by kernel_rfl))
theorem S60 {lo : Lo} (hlo : LoOK lo) : Yx2 Try.prog fm ⟨pf, fs60 lo, [], 0⟩ := YwD hlo (S59 hlo) mixed (Yab (i := 91) rfl (by kernel_rfl) (by decide) (by kernel_rfl))
theorem S61 {lo : Lo} (hlo : LoOK lo) : Yx2 Try.prog fm ⟨pf, fs61 lo, [], 0⟩ := YwH hlo (S60 hlo) mixed (Yab (i := 60) rfl (by kernel_rfl) (by decide) (by kernel_rfl))
theorem S62 {lo : Lo} (hlo : LoOK lo) : Yx2 Try.prog fm ⟨pf, fs62 lo, [], 0⟩ := YwJ hlo (S61 hlo) mixed (Yab (i := 85) rfl (by kernel_rfl) (by decide) (by kernel_rfl))
theorem S63 {lo : Lo} (hlo : LoOK lo) : Yx2 Try.prog fm ⟨pf, fs63 lo, [], 0⟩ := YwN hlo (S62 hlo) mixed (Yab (i := 49) rfl (by kernel_rfl) (by decide) (by kernel_rfl))
theorem S64 {lo : Lo} (hlo : LoOK lo) : Yx2 Try.prog fm ⟨pf, fs64 lo, [], 0⟩ := S63 hlo
theorem S65 {lo : Lo} (hlo : LoOK lo) : Yx2 Try.prog fm ⟨pf, fs65 lo, [], 0⟩ := YwR hlo (S64 hlo) mixed (Yab (i := 50) rfl (by kernel_rfl) (by decide) (by kernel_rfl))
theorem S66 {lo : Lo} (hlo : LoOK lo) : Yx2 Try.prog fm ⟨pf, fs66 lo, [], 0⟩ := YwT hlo (S65 hlo) mixed (Yab (i := 51) rfl (by kernel_rfl) (by decide) (by kernel_rfl))
theorem S67 {lo : Lo} (hlo : LoOK lo) : Yx2 Try.prog fm ⟨pf, fs67 lo, [], 0⟩ := YwX hlo (S66 hlo) mixed (Yab (i := 19) rfl (by kernel_rfl) (by decide) (by kernel_rfl))
theorem S68 {lo : Lo} (hlo : LoOK lo) : Yx2 Try.prog fm ⟨pf, fs68 lo, [], 0⟩ := S67 hlo
theorem S69 {lo : Lo} (hlo : LoOK lo) : Yx2 Try.prog fm ⟨pf, fs69 lo, [], 0⟩ := Yw1 hlo (S68 hlo) mixed (Yab (i := 59) rfl (by kernel_rfl) (by decide) (by kernel_rfl))
theorem S70 {lo : Lo} (hlo : LoOK lo) : Yx2 Try.prog fm ⟨pf, fs70 lo, [], 0⟩ := Yxd hlo (S69 hlo) mixed (Yab (i := 23) rfl (by kernel_rfl) (by decide) (by kernel_rfl))
theorem S71 {lo : Lo} (hlo : LoOK lo) : Yx2 Try.prog fm ⟨pf, fs71 lo, [], 0⟩ := Yxf hlo (S70 hlo) mixed (Yab (i := 5) rfl (by kernel_rfl) (by decide) (by kernel_rfl))
end Go.Abs.G03
