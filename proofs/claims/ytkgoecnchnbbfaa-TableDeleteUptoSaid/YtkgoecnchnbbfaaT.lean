/- The functions of this seat's program are those of the texts: each is compared by the kernel. No condition. -/
import Derived.Test.YtkgoecnchnbbfaaG
import Derived.Test.YtkgoecnchnbbfaaB
import Derived.Test.YtkgoecnchnbbfaaL
import Derived.Test.YtkgoecnchnbbfaaChecked
set_option linter.unusedVariables false
set_option linter.unusedSimpArgs false
set_option linter.unusedSectionVars false
namespace Go.Abs.G03
open Go Go.Abs Go.Proofs
def fmL : List Nat := [0, 0, 1075, 219, 220, 221, 222, 223, 224, 225, 226, 227, 228, 229, 230, 231, 232, 233, 234, 235, 118, 236, 237, 238, 239, 240, 241, 242, 243, 244, 245, 246, 247, 248, 249, 250, 251, 252, 253, 254, 255, 256, 257, 258, 259, 260, 261, 262, 263, 264, 265, 266, 267, 268, 269, 173, 270, 271, 272, 273, 274, 275, 276, 277, 278, 279, 280, 281, 282, 283, 284, 285, 286, 287, 288, 289, 290, 291, 292, 293, 294, 295, 296, 149, 151, 297, 298, 299, 300, 301, 163, 302, 303, 304, 305, 306, 307, 308, 309, 310, 164, 311, 312, 313, 314, 315, 316, 317, 318, 319, 186, 187, 320, 321, 0, 322, 195, 196, 323, 324, 325, 326, 327, 0, 0, 0, 0, 0, 0, 0, 0, 0, 0, 0, 0, 214, 0, 0, 215, 216, 0]
def fm : FM := { f := fmOf fmL, own := [("value.go:141", 12)], dat := [("ref.go:134", 36)], bt := 105, bu := 5 }
theorem mixed : Try.prog.follows .mixedOrders = true := by kernel_rfl
theorem S0 (lo : Lo) : Sound Try.prog fm ⟨pf, fs0 lo, [], 0⟩ := sound_nil Try.prog fm pf []
theorem S1 {lo : Lo} (hlo : LoOK lo) : Sound Try.prog fm ⟨pf, fs1 lo, [], 0⟩ := q0_S hlo (S0 lo) mixed (tie_at (i := 77) rfl (by kernel_rfl) (by decide) (by kernel_rfl))
theorem S2 {lo : Lo} (hlo : LoOK lo) : Sound Try.prog fm ⟨pf, fs2 lo, [], 0⟩ := q1_S hlo (S1 hlo) mixed (tie_at (i := 78) rfl (by kernel_rfl) (by decide) (by kernel_rfl))
theorem S3 {lo : Lo} (hlo : LoOK lo) : Sound Try.prog fm ⟨pf, fs3 lo, [], 0⟩ := q2_S hlo (S2 hlo) mixed (tie_at (i := 39) rfl (by kernel_rfl) (by decide) (by kernel_rfl))
theorem S4 {lo : Lo} (hlo : LoOK lo) : Sound Try.prog fm ⟨pf, fs4 lo, [], 0⟩ := q3_S hlo (S3 hlo) mixed (tie_at (i := 40) rfl (by kernel_rfl) (by decide) (by kernel_rfl))
theorem S5 {lo : Lo} (hlo : LoOK lo) : Sound Try.prog fm ⟨pf, fs5 lo, [], 0⟩ := q4_S hlo (S4 hlo) mixed (tie_at (i := 55) rfl (by kernel_rfl) (by decide) (by kernel_rfl))
theorem S6 {lo : Lo} (hlo : LoOK lo) : Sound Try.prog fm ⟨pf, fs6 lo, [], 0⟩ := q5_S hlo (S5 hlo) mixed (tie_at (i := 41) rfl (by kernel_rfl) (by decide) (by kernel_rfl))
theorem S7 {lo : Lo} (hlo : LoOK lo) : Sound Try.prog fm ⟨pf, fs7 lo, [], 0⟩ := q6_S hlo (S6 hlo) mixed (tie_at (i := 69) rfl (by kernel_rfl) (by decide) (by kernel_rfl))
theorem S8 {lo : Lo} (hlo : LoOK lo) : Sound Try.prog fm ⟨pf, fs8 lo, [], 0⟩ := q7_S hlo (S7 hlo) mixed (tie_at (i := 80) rfl (by kernel_rfl) (by decide) (by kernel_rfl))
theorem S9 {lo : Lo} (hlo : LoOK lo) : Sound Try.prog fm ⟨pf, fs9 lo, [], 0⟩ := q8_S hlo (S8 hlo) mixed (tie_at (i := 98) rfl (by kernel_rfl) (by decide) (by kernel_rfl))
theorem S10 {lo : Lo} (hlo : LoOK lo) : Sound Try.prog fm ⟨pf, fs10 lo, [], 0⟩ := q9_S hlo (S9 hlo) mixed (tie_at (i := 79) rfl (by kernel_rfl) (by decide) (by kernel_rfl))
theorem S11 {lo : Lo} (hlo : LoOK lo) : Sound Try.prog fm ⟨pf, fs11 lo, [], 0⟩ := q10_S hlo (S10 hlo) mixed (tie_at (i := 42) rfl (by kernel_rfl) (by decide) (by kernel_rfl))
theorem S12 {lo : Lo} (hlo : LoOK lo) : Sound Try.prog fm ⟨pf, fs12 lo, [], 0⟩ := q11_S hlo (S11 hlo) mixed (tie_at (i := 14) rfl (by kernel_rfl) (by decide) (by kernel_rfl))
theorem S13 {lo : Lo} (hlo : LoOK lo) : Sound Try.prog fm ⟨pf, fs13 lo, [], 0⟩ := q12_S hlo (S12 hlo) mixed (tie_at (i := 99) rfl (by kernel_rfl) (by decide) (by kernel_rfl))
theorem S14 {lo : Lo} (hlo : LoOK lo) : Sound Try.prog fm ⟨pf, fs14 lo, [], 0⟩ := q13_S hlo (S13 hlo) mixed (tie_at (i := 82) rfl (by kernel_rfl) (by decide) (by kernel_rfl))
theorem onlyF {g i f : Nat} (h : onlyAt g fmL i 0 = true) (hg : g ≠ 0) (hf : fm f = g) : f = i := fm_only h hg hf
theorem bldOK240 : BldOK Try.prog fm Try.lays240_ren := ⟨Try.bextra240, by kernel_rfl⟩
theorem hG164 : ∀ f, fm f = 164 -> callable Try.prog f = true /\ ∃ ρ : Go.Shelf.Ren, Go.Proofs.Lays.n240 Try.prog ρ /\ BldOK Try.prog fm ρ /\ ρ.f 240 = f := fun f h => by
  have := onlyF (i := 100) (by kernel_rfl) (by decide) h; subst this
  exact ⟨by kernel_rfl, _, Try.lays240', bldOK240, by kernel_rfl⟩
theorem S15 {lo : Lo} (hlo : LoOK lo) : Sound Try.prog fm ⟨pf, fs15 lo, [], 0⟩ := q14_S hlo (S14 hlo) mixed (hG164)
theorem S16 {lo : Lo} (hlo : LoOK lo) : Sound Try.prog fm ⟨pf, fs16 lo, [], 0⟩ := q15_S hlo (S15 hlo) mixed (tie_at (i := 83) rfl (by kernel_rfl) (by decide) (by kernel_rfl))
theorem bldOK169 : BldOK Try.prog fm Try.lays169_ren := ⟨Try.bextra169, by kernel_rfl⟩
theorem hG151 : ∀ f, fm f = 151 -> callable Try.prog f = true /\ ∃ ρ : Go.Shelf.Ren, Go.Proofs.Lays.n169 Try.prog ρ /\ BldOK Try.prog fm ρ /\ fm.bu = ρ.t 5 /\ ρ.f 169 = f := fun f h => by
  have := onlyF (i := 84) (by kernel_rfl) (by decide) h; subst this
  exact ⟨by kernel_rfl, _, Try.lays169', bldOK169, by kernel_rfl, by kernel_rfl⟩
theorem S17 {lo : Lo} (hlo : LoOK lo) : Sound Try.prog fm ⟨pf, fs17 lo, [], 0⟩ := q16_S hlo (S16 hlo) mixed (hG151)
theorem S18 {lo : Lo} (hlo : LoOK lo) : Sound Try.prog fm ⟨pf, fs18 lo, [], 0⟩ := q17_S hlo (S17 hlo) mixed (tie_at (i := 46) rfl (by kernel_rfl) (by decide) (by kernel_rfl))
theorem S19 {lo : Lo} (hlo : LoOK lo) : Sound Try.prog fm ⟨pf, fs19 lo, [], 0⟩ := q18_S hlo (S18 hlo) mixed (tie_at (i := 17) rfl (by kernel_rfl) (by decide) (by kernel_rfl))
theorem S20 {lo : Lo} (hlo : LoOK lo) : Sound Try.prog fm ⟨pf, fs20 lo, [], 0⟩ := q19_S hlo (S19 hlo) mixed (tie_at (i := 54) rfl (by kernel_rfl) (by decide) (by kernel_rfl))
theorem S21 {lo : Lo} (hlo : LoOK lo) : Sound Try.prog fm ⟨pf, fs21 lo, [], 0⟩ := q20_S hlo (S20 hlo) mixed (tie_at (i := 56) rfl (by kernel_rfl) (by decide) (by kernel_rfl))
theorem S22 {lo : Lo} (hlo : LoOK lo) : Sound Try.prog fm ⟨pf, fs22 lo, [], 0⟩ := q21_S hlo (S21 hlo) mixed (tie_at (i := 111) rfl (by kernel_rfl) (by decide) (by kernel_rfl))
theorem S23 {lo : Lo} (hlo : LoOK lo) : Sound Try.prog fm ⟨pf, fs23 lo, [], 0⟩ := q22_S hlo (S22 hlo) mixed (tie_at (i := 90) rfl (by kernel_rfl) (by decide) (by kernel_rfl))
theorem S24 {lo : Lo} (hlo : LoOK lo) : Sound Try.prog fm ⟨pf, fs24 lo, [], 0⟩ := q23_S hlo (S23 hlo) mixed (tie_at (i := 120) rfl (by kernel_rfl) (by decide) (by kernel_rfl))
theorem S25 {lo : Lo} (hlo : LoOK lo) : Sound Try.prog fm ⟨pf, fs25 lo, [], 0⟩ := q24_S hlo (S24 hlo) mixed (tie_at (i := 107) rfl (by kernel_rfl) (by decide) (by kernel_rfl))
theorem S26 {lo : Lo} (hlo : LoOK lo) : Sound Try.prog fm ⟨pf, fs26 lo, [], 0⟩ := q25_S hlo (S25 hlo) mixed (tie_at (i := 101) rfl (by kernel_rfl) (by decide) (by kernel_rfl))
theorem S27 {lo : Lo} (hlo : LoOK lo) : Sound Try.prog fm ⟨pf, fs27 lo, [], 0⟩ := q26_S hlo (S26 hlo) mixed trivial
theorem S28 {lo : Lo} (hlo : LoOK lo) : Sound Try.prog fm ⟨pf, fs28 lo, [], 0⟩ := q27_S hlo (S27 hlo) mixed trivial
theorem S29 {lo : Lo} (hlo : LoOK lo) : Sound Try.prog fm ⟨pf, fs29 lo, [], 0⟩ := q28_S hlo (S28 hlo) mixed trivial
theorem S30 {lo : Lo} (hlo : LoOK lo) : Sound Try.prog fm ⟨pf, fs30 lo, [], 0⟩ := q29_S hlo (S29 hlo) mixed trivial
theorem S31 {lo : Lo} (hlo : LoOK lo) : Sound Try.prog fm ⟨pf, fs31 lo, [], 0⟩ := q30_S hlo (S30 hlo) mixed trivial
theorem S32 {lo : Lo} (hlo : LoOK lo) : Sound Try.prog fm ⟨pf, fs32 lo, [], 0⟩ := q31_S hlo (S31 hlo) mixed trivial
theorem S33 {lo : Lo} (hlo : LoOK lo) : Sound Try.prog fm ⟨pf, fs33 lo, [], 0⟩ := q32_S hlo (S32 hlo) mixed trivial
theorem S34 {lo : Lo} (hlo : LoOK lo) : Sound Try.prog fm ⟨pf, fs34 lo, [], 0⟩ := q33_S hlo (S33 hlo) mixed (tie_at (i := 89) rfl (by kernel_rfl) (by decide) (by kernel_rfl))
theorem S35 {lo : Lo} (hlo : LoOK lo) : Sound Try.prog fm ⟨pf, fs35 lo, [], 0⟩ := q34_S hlo (S34 hlo) mixed (tie_at (i := 57) rfl (by kernel_rfl) (by decide) (by kernel_rfl))
theorem hG271 : ∀ f, fm f = 271 -> callable Try.prog f = true /\ ∃ ρ : Go.Shelf.Ren, Go.Proofs.Lays.n190 Try.prog ρ /\ ρ.f 190 = f := fun f h => by
  have := onlyF (i := 57) (by kernel_rfl) (by decide) h; subst this
  exact ⟨by kernel_rfl, _, Try.lays190, by kernel_rfl⟩
theorem S36 {lo : Lo} (hlo : LoOK lo) : Sound Try.prog fm ⟨pf, fs36 lo, [], 0⟩ := q35_S hlo (S35 hlo) mixed (hG271)
theorem S37 {lo : Lo} (hlo : LoOK lo) : Sound Try.prog fm ⟨pf, fs37 lo, [], 0⟩ := q36_S hlo (S36 hlo) mixed (tie_at (i := 22) rfl (by kernel_rfl) (by decide) (by kernel_rfl))
theorem S38 {lo : Lo} (hlo : LoOK lo) : Sound Try.prog fm ⟨pf, fs38 lo, [], 0⟩ := q37_S hlo (S37 hlo) mixed (tie_at (i := 52) rfl (by kernel_rfl) (by decide) (by kernel_rfl))
theorem S39 {lo : Lo} (hlo : LoOK lo) : Sound Try.prog fm ⟨pf, fs39 lo, [], 0⟩ := q38_S hlo (S38 hlo) mixed (tie_at (i := 88) rfl (by kernel_rfl) (by decide) (by kernel_rfl))
theorem S40 {lo : Lo} (hlo : LoOK lo) : Sound Try.prog fm ⟨pf, fs40 lo, [], 0⟩ := q39_S hlo (S39 hlo) mixed (tie_at (i := 87) rfl (by kernel_rfl) (by decide) (by kernel_rfl))
theorem S41 {lo : Lo} (hlo : LoOK lo) : Sound Try.prog fm ⟨pf, fs41 lo, [], 0⟩ := q40_S hlo (S40 hlo) mixed (tie_at (i := 63) rfl (by kernel_rfl) (by decide) (by kernel_rfl))
theorem S42 {lo : Lo} (hlo : LoOK lo) : Sound Try.prog fm ⟨pf, fs42 lo, [], 0⟩ := q41_S hlo (S41 hlo) mixed (tie_at (i := 86) rfl (by kernel_rfl) (by decide) (by kernel_rfl))
theorem S43 {lo : Lo} (hlo : LoOK lo) : Sound Try.prog fm ⟨pf, fs43 lo, [], 0⟩ := q42_S hlo (S42 hlo) mixed (tie_at (i := 53) rfl (by kernel_rfl) (by decide) (by kernel_rfl))
theorem S44 {lo : Lo} (hlo : LoOK lo) : Sound Try.prog fm ⟨pf, fs44 lo, [], 0⟩ := q43_S hlo (S43 hlo) mixed (tie_at (i := 21) rfl (by kernel_rfl) (by decide) (by kernel_rfl))
theorem S45 {lo : Lo} (hlo : LoOK lo) : Sound Try.prog fm ⟨pf, fs45 lo, [], 0⟩ := q44_S hlo (S44 hlo) mixed (tie_at (i := 13) rfl (by kernel_rfl) (by decide) (by kernel_rfl))
theorem S46 {lo : Lo} (hlo : LoOK lo) : Sound Try.prog fm ⟨pf, fs46 lo, [], 0⟩ := q45_S hlo (S45 hlo) mixed (tie_at (i := 81) rfl (by kernel_rfl) (by decide) (by kernel_rfl))
theorem S47 {lo : Lo} (hlo : LoOK lo) : Sound Try.prog fm ⟨pf, fs47 lo, [], 0⟩ := q46_S hlo (S46 hlo) mixed (tie_at (i := 43) rfl (by kernel_rfl) (by decide) (by kernel_rfl))
theorem S48 {lo : Lo} (hlo : LoOK lo) : Sound Try.prog fm ⟨pf, fs48 lo, [], 0⟩ := q47_S hlo (S47 hlo) mixed (tie_at (i := 58) rfl (by kernel_rfl) (by decide) (by kernel_rfl))
theorem S49 {lo : Lo} (hlo : LoOK lo) : Sound Try.prog fm ⟨pf, fs49 lo, [], 0⟩ := q48_S hlo (S48 hlo) mixed (tie_at (i := 44) rfl (by kernel_rfl) (by decide) (by kernel_rfl))
theorem S50 {lo : Lo} (hlo : LoOK lo) : Sound Try.prog fm ⟨pf, fs50 lo, [], 0⟩ := q49_S hlo (S49 hlo) mixed (tie_at (i := 70) rfl (by kernel_rfl) (by decide) (by kernel_rfl))
theorem S51 {lo : Lo} (hlo : LoOK lo) : Sound Try.prog fm ⟨pf, fs51 lo, [], 0⟩ := q50_S hlo (S50 hlo) mixed (tie_at (i := 45) rfl (by kernel_rfl) (by decide) (by kernel_rfl))
theorem S52 {lo : Lo} (hlo : LoOK lo) : Sound Try.prog fm ⟨pf, fs52 lo, [], 0⟩ := q51_S hlo (S51 hlo) mixed (tie_at (i := 15) rfl (by kernel_rfl) (by decide) (by kernel_rfl))
theorem S53 {lo : Lo} (hlo : LoOK lo) : Sound Try.prog fm ⟨pf, fs53 lo, [], 0⟩ := S52 hlo
theorem S54 {lo : Lo} (hlo : LoOK lo) : Sound Try.prog fm ⟨pf, fs54 lo, [], 0⟩ := q53_S hlo (S53 hlo) mixed (tie_at (i := 16) rfl (by kernel_rfl) (by decide) (by kernel_rfl))
theorem S55 {lo : Lo} (hlo : LoOK lo) : Sound Try.prog fm ⟨pf, fs55 lo, [], 0⟩ := S54 hlo
theorem S56 {lo : Lo} (hlo : LoOK lo) : Sound Try.prog fm ⟨pf, fs56 lo, [], 0⟩ := S55 hlo
theorem S57 {lo : Lo} (hlo : LoOK lo) : Sound Try.prog fm ⟨pf, fs57 lo, [], 0⟩ := S56 hlo
theorem S58 {lo : Lo} (hlo : LoOK lo) : Sound Try.prog fm ⟨pf, fs58 lo, [], 0⟩ := q57_S hlo (S57 hlo) mixed (tie_at (i := 92) rfl (by kernel_rfl) (by decide) (by kernel_rfl))
theorem S59 {lo : Lo} (hlo : LoOK lo) : Sound Try.prog fm ⟨pf, fs59 lo, [], 0⟩ := q58_S hlo (S58 hlo) mixed (tie_at (i := 112) rfl (by kernel_rfl) (by decide) (by kernel_rfl))
theorem S60 {lo : Lo} (hlo : LoOK lo) : Sound Try.prog fm ⟨pf, fs60 lo, [], 0⟩ := q59_S hlo (S59 hlo) mixed (tie_at (i := 91) rfl (by kernel_rfl) (by decide) (by kernel_rfl))
theorem S61 {lo : Lo} (hlo : LoOK lo) : Sound Try.prog fm ⟨pf, fs61 lo, [], 0⟩ := q60_S hlo (S60 hlo) mixed (tie_at (i := 60) rfl (by kernel_rfl) (by decide) (by kernel_rfl))
theorem S62 {lo : Lo} (hlo : LoOK lo) : Sound Try.prog fm ⟨pf, fs62 lo, [], 0⟩ := q61_S hlo (S61 hlo) mixed (tie_at (i := 85) rfl (by kernel_rfl) (by decide) (by kernel_rfl))
theorem S63 {lo : Lo} (hlo : LoOK lo) : Sound Try.prog fm ⟨pf, fs63 lo, [], 0⟩ := S62 hlo
theorem S64 {lo : Lo} (hlo : LoOK lo) : Sound Try.prog fm ⟨pf, fs64 lo, [], 0⟩ := S63 hlo
theorem S65 {lo : Lo} (hlo : LoOK lo) : Sound Try.prog fm ⟨pf, fs65 lo, [], 0⟩ := q64_S hlo (S64 hlo) mixed (tie_at (i := 50) rfl (by kernel_rfl) (by decide) (by kernel_rfl))
theorem S66 {lo : Lo} (hlo : LoOK lo) : Sound Try.prog fm ⟨pf, fs66 lo, [], 0⟩ := q65_S hlo (S65 hlo) mixed (tie_at (i := 51) rfl (by kernel_rfl) (by decide) (by kernel_rfl))
theorem S67 {lo : Lo} (hlo : LoOK lo) : Sound Try.prog fm ⟨pf, fs67 lo, [], 0⟩ := q66_S hlo (S66 hlo) mixed (tie_at (i := 19) rfl (by kernel_rfl) (by decide) (by kernel_rfl))
theorem S68 {lo : Lo} (hlo : LoOK lo) : Sound Try.prog fm ⟨pf, fs68 lo, [], 0⟩ := S67 hlo
theorem S69 {lo : Lo} (hlo : LoOK lo) : Sound Try.prog fm ⟨pf, fs69 lo, [], 0⟩ := S68 hlo
theorem S70 {lo : Lo} (hlo : LoOK lo) : Sound Try.prog fm ⟨pf, fs70 lo, [], 0⟩ := S69 hlo
theorem S71 {lo : Lo} (hlo : LoOK lo) : Sound Try.prog fm ⟨pf, fs71 lo, [], 0⟩ := S70 hlo
theorem S72 {lo : Lo} (hlo : LoOK lo) : Sound Try.prog fm ⟨pf, fs72 lo, [], 0⟩ := S71 hlo
theorem S73 {lo : Lo} (hlo : LoOK lo) : Sound Try.prog fm ⟨pf, fs73 lo, [], 0⟩ := S72 hlo
theorem S74 {lo : Lo} (hlo : LoOK lo) : Sound Try.prog fm ⟨pf, fs74 lo, [], 0⟩ := S73 hlo
theorem S75 {lo : Lo} (hlo : LoOK lo) : Sound Try.prog fm ⟨pf, fs75 lo, [], 0⟩ := S74 hlo
theorem S76 {lo : Lo} (hlo : LoOK lo) : Sound Try.prog fm ⟨pf, fs76 lo, [], 0⟩ := S75 hlo
theorem S77 {lo : Lo} (hlo : LoOK lo) : Sound Try.prog fm ⟨pf, fs77 lo, [], 0⟩ := S76 hlo
theorem S78 {lo : Lo} (hlo : LoOK lo) : Sound Try.prog fm ⟨pf, fs78 lo, [], 0⟩ := S77 hlo
theorem S79 {lo : Lo} (hlo : LoOK lo) : Sound Try.prog fm ⟨pf, fs79 lo, [], 0⟩ := S78 hlo
theorem S80 {lo : Lo} (hlo : LoOK lo) : Sound Try.prog fm ⟨pf, fs80 lo, [], 0⟩ := q79_S hlo (S79 hlo) mixed (tie_at (i := 64) rfl (by kernel_rfl) (by decide) (by kernel_rfl))
theorem S81 {lo : Lo} (hlo : LoOK lo) : Sound Try.prog fm ⟨pf, fs81 lo, [], 0⟩ := q80_S hlo (S80 hlo) mixed (tie_at (i := 63) rfl (by kernel_rfl) (by decide) (by kernel_rfl))
theorem S82 {lo : Lo} (hlo : LoOK lo) : Sound Try.prog fm ⟨pf, fs82 lo, [], 0⟩ := q81_S hlo (S81 hlo) mixed (tie_at (i := 27) rfl (by kernel_rfl) (by decide) (by kernel_rfl))
theorem S83 {lo : Lo} (hlo : LoOK lo) : Sound Try.prog fm ⟨pf, fs83 lo, [], 0⟩ := q82_S hlo (S82 hlo) mixed (tie_at (i := 28) rfl (by kernel_rfl) (by decide) (by kernel_rfl))
theorem S84 {lo : Lo} (hlo : LoOK lo) : Sound Try.prog fm ⟨pf, fs84 lo, [], 0⟩ := S83 hlo
theorem S85 {lo : Lo} (hlo : LoOK lo) : Sound Try.prog fm ⟨pf, fs85 lo, [], 0⟩ := S84 hlo
theorem S86 {lo : Lo} (hlo : LoOK lo) : Sound Try.prog fm ⟨pf, fs86 lo, [], 0⟩ := S85 hlo
theorem S87 {lo : Lo} (hlo : LoOK lo) : Sound Try.prog fm ⟨pf, fs87 lo, [], 0⟩ := q86_S hlo (S86 hlo) mixed (tie_at (i := 97) rfl (by kernel_rfl) (by decide) (by kernel_rfl))
theorem S88 {lo : Lo} (hlo : LoOK lo) : Sound Try.prog fm ⟨pf, fs88 lo, [], 0⟩ := q87_S hlo (S87 hlo) mixed (tie_at (i := 75) rfl (by kernel_rfl) (by decide) (by kernel_rfl))
theorem S89 {lo : Lo} (hlo : LoOK lo) : Sound Try.prog fm ⟨pf, fs89 lo, [], 0⟩ := q88_S hlo (S88 hlo) mixed (tie_at (i := 66) rfl (by kernel_rfl) (by decide) (by kernel_rfl))
theorem S90 {lo : Lo} (hlo : LoOK lo) : Sound Try.prog fm ⟨pf, fs90 lo, [], 0⟩ := S89 hlo
theorem S91 {lo : Lo} (hlo : LoOK lo) : Sound Try.prog fm ⟨pf, fs91 lo, [], 0⟩ := S90 hlo
theorem S92 {lo : Lo} (hlo : LoOK lo) : Sound Try.prog fm ⟨pf, fs92 lo, [], 0⟩ := q91_S hlo (S91 hlo) mixed (tie_at (i := 76) rfl (by kernel_rfl) (by decide) (by kernel_rfl))
theorem S93 {lo : Lo} (hlo : LoOK lo) : Sound Try.prog fm ⟨pf, fs93 lo, [], 0⟩ := q92_S hlo (S92 hlo) mixed (tie_at (i := 68) rfl (by kernel_rfl) (by decide) (by kernel_rfl))
theorem S94 {lo : Lo} (hlo : LoOK lo) : Sound Try.prog fm ⟨pf, fs94 lo, [], 0⟩ := S93 hlo
theorem S95 {lo : Lo} (hlo : LoOK lo) : Sound Try.prog fm ⟨pf, fs95 lo, [], 0⟩ := S94 hlo
theorem hG305 : ∀ f, fm f = 305 -> callable Try.prog f = true /\ ∃ ρ : Go.Shelf.Ren, Go.Proofs.Lays8.n4 Try.prog ρ /\ ρ.f 4 = f /\ vgrowOK Try.prog (ρ.t 25) 2 = true := fun f h => by
  have := onlyF (i := 94) (by kernel_rfl) (by decide) h; subst this
  exact ⟨by kernel_rfl, _, Try.lays8_4, by kernel_rfl, by kernel_rfl⟩
theorem S96 {lo : Lo} (hlo : LoOK lo) : Sound Try.prog fm ⟨pf, fs96 lo, [], 0⟩ := q95_S hlo (S95 hlo) mixed (hG305)
theorem S97 {lo : Lo} (hlo : LoOK lo) : Sound Try.prog fm ⟨pf, fs97 lo, [], 0⟩ := q96_S hlo (S96 hlo) mixed (tie_at (i := 71) rfl (by kernel_rfl) (by decide) (by kernel_rfl))
theorem S98 {lo : Lo} (hlo : LoOK lo) : Sound Try.prog fm ⟨pf, fs98 lo, [], 0⟩ := q97_S hlo (S97 hlo) mixed (tie_at (i := 34) rfl (by kernel_rfl) (by decide) (by kernel_rfl))
theorem S99 {lo : Lo} (hlo : LoOK lo) : Sound Try.prog fm ⟨pf, fs99 lo, [], 0⟩ := q98_S hlo (S98 hlo) mixed (tie_at (i := 35) rfl (by kernel_rfl) (by decide) (by kernel_rfl))
theorem S100 {lo : Lo} (hlo : LoOK lo) : Sound Try.prog fm ⟨pf, fs100 lo, [], 0⟩ := q99_S hlo (S99 hlo) mixed (tie_at (i := 10) rfl (by kernel_rfl) (by decide) (by kernel_rfl))
end Go.Abs.G03
