/- The functions of this seat's program are those of the texts: each is compared by the kernel. No condition. -/
import Derived.Test.YtppagmmeofoekaaDoorG
import Derived.Test.YtppagmmeofoekaaDoorB
import Derived.Test.YtppagmmeofoekaaDoorL
import Derived.Test.YtppagmmeofoekaaDoorChecked
set_option linter.unusedVariables false
set_option linter.unusedSimpArgs false
set_option linter.unusedSectionVars false
namespace Go.Abs.G12
open Go Go.Abs Go.Proofs
def fmL : List Nat := [0, 0, 1075, 100, 101, 102, 103, 104, 105, 108, 109, 110, 111, 112, 113, 114, 115, 116, 117, 118, 119, 120, 121, 122, 123, 124, 130, 131, 125, 132, 133, 134, 135, 136, 137, 138, 139, 140, 141, 142, 143, 144, 145, 146, 147, 148, 149, 150, 151, 158, 159, 160, 161, 162, 163, 164, 165, 166, 167, 168, 169, 177, 178, 179, 180, 181, 182, 183, 184, 185, 186, 187, 0, 1076, 1077, 188, 194, 195, 196, 197, 198, 199, 1081, 1082, 1083, 1084, 1085, 200, 208, 1090, 1091, 1092, 209, 0, 212, 213, 0, 0, 0, 0, 0, 0, 0, 0, 0, 0, 0, 0, 214, 0, 0, 215, 216, 0, 0, 0, 0, 0, 0, 1098]
def fm : FM := { f := fmOf fmL, own := [], dat := [("ref.go:163", 23)], bt := 77, bu := 5 }
theorem mixed : Tryd.prog.follows .mixedOrders = true := by kernel_rfl
theorem S0 (lo : Lo) : Sound Tryd.prog fm ⟨pf, fs0 lo, [], 0⟩ := sound_nil Tryd.prog fm pf []
theorem S1 {lo : Lo} (hlo : LoOK lo) : Sound Tryd.prog fm ⟨pf, fs1 lo, [], 0⟩ := q0_S hlo (S0 lo) mixed (tie_at (i := 19) rfl (by kernel_rfl) (by decide) (by kernel_rfl))
theorem S2 {lo : Lo} (hlo : LoOK lo) : Sound Tryd.prog fm ⟨pf, fs2 lo, [], 0⟩ := q1_S hlo (S1 hlo) mixed (tie_at (i := 26) rfl (by kernel_rfl) (by decide) (by kernel_rfl))
theorem S3 {lo : Lo} (hlo : LoOK lo) : Sound Tryd.prog fm ⟨pf, fs3 lo, [], 0⟩ := q2_S hlo (S2 hlo) mixed (tie_at (i := 9) rfl (by kernel_rfl) (by decide) (by kernel_rfl))
theorem S4 {lo : Lo} (hlo : LoOK lo) : Sound Tryd.prog fm ⟨pf, fs4 lo, [], 0⟩ := q3_S hlo (S3 hlo) mixed (tie_at (i := 27) rfl (by kernel_rfl) (by decide) (by kernel_rfl))
theorem S5 {lo : Lo} (hlo : LoOK lo) : Sound Tryd.prog fm ⟨pf, fs5 lo, [], 0⟩ := q4_S hlo (S4 hlo) mixed (tie_at (i := 29) rfl (by kernel_rfl) (by decide) (by kernel_rfl))
theorem S6 {lo : Lo} (hlo : LoOK lo) : Sound Tryd.prog fm ⟨pf, fs6 lo, [], 0⟩ := q5_S hlo (S5 hlo) mixed (tie_at (i := 35) rfl (by kernel_rfl) (by decide) (by kernel_rfl))
theorem S7 {lo : Lo} (hlo : LoOK lo) : Sound Tryd.prog fm ⟨pf, fs7 lo, [], 0⟩ := q6_S hlo (S6 hlo) mixed (tie_at (i := 34) rfl (by kernel_rfl) (by decide) (by kernel_rfl))
theorem S8 {lo : Lo} (hlo : LoOK lo) : Sound Tryd.prog fm ⟨pf, fs8 lo, [], 0⟩ := q7_S hlo (S7 hlo) mixed (tie_at (i := 49) rfl (by kernel_rfl) (by decide) (by kernel_rfl))
theorem S9 {lo : Lo} (hlo : LoOK lo) : Sound Tryd.prog fm ⟨pf, fs9 lo, [], 0⟩ := q8_S hlo (S8 hlo) mixed (tie_at (i := 30) rfl (by kernel_rfl) (by decide) (by kernel_rfl))
theorem S10 {lo : Lo} (hlo : LoOK lo) : Sound Tryd.prog fm ⟨pf, fs10 lo, [], 0⟩ := q9_S hlo (S9 hlo) mixed (tie_at (i := 12) rfl (by kernel_rfl) (by decide) (by kernel_rfl))
theorem S11 {lo : Lo} (hlo : LoOK lo) : Sound Tryd.prog fm ⟨pf, fs11 lo, [], 0⟩ := q10_S hlo (S10 hlo) mixed (tie_at (i := 51) rfl (by kernel_rfl) (by decide) (by kernel_rfl))
theorem S12 {lo : Lo} (hlo : LoOK lo) : Sound Tryd.prog fm ⟨pf, fs12 lo, [], 0⟩ := q11_S hlo (S11 hlo) mixed (tie_at (i := 36) rfl (by kernel_rfl) (by decide) (by kernel_rfl))
theorem S13 {lo : Lo} (hlo : LoOK lo) : Sound Tryd.prog fm ⟨pf, fs13 lo, [], 0⟩ := q12_S hlo (S12 hlo) mixed (tie_at (i := 37) rfl (by kernel_rfl) (by decide) (by kernel_rfl))
theorem S14 {lo : Lo} (hlo : LoOK lo) : Sound Tryd.prog fm ⟨pf, fs14 lo, [], 0⟩ := q13_S hlo (S13 hlo) mixed (tie_at (i := 52) rfl (by kernel_rfl) (by decide) (by kernel_rfl))
theorem S15 {lo : Lo} (hlo : LoOK lo) : Sound Tryd.prog fm ⟨pf, fs15 lo, [], 0⟩ := q14_S hlo (S14 hlo) mixed (tie_at (i := 38) rfl (by kernel_rfl) (by decide) (by kernel_rfl))
theorem S16 {lo : Lo} (hlo : LoOK lo) : Sound Tryd.prog fm ⟨pf, fs16 lo, [], 0⟩ := q15_S hlo (S15 hlo) mixed (tie_at (i := 37) rfl (by kernel_rfl) (by decide) (by kernel_rfl))
theorem S17 {lo : Lo} (hlo : LoOK lo) : Sound Tryd.prog fm ⟨pf, fs17 lo, [], 0⟩ := q16_S hlo (S16 hlo) mixed (tie_at (i := 37) rfl (by kernel_rfl) (by decide) (by kernel_rfl))
theorem S18 {lo : Lo} (hlo : LoOK lo) : Sound Tryd.prog fm ⟨pf, fs18 lo, [], 0⟩ := q17_S hlo (S17 hlo) mixed (tie_at (i := 17) rfl (by kernel_rfl) (by decide) (by kernel_rfl))
theorem S19 {lo : Lo} (hlo : LoOK lo) : Sound Tryd.prog fm ⟨pf, fs19 lo, [], 0⟩ := q18_S hlo (S18 hlo) mixed (tie_at (i := 33) rfl (by kernel_rfl) (by decide) (by kernel_rfl))
theorem S20 {lo : Lo} (hlo : LoOK lo) : Sound Tryd.prog fm ⟨pf, fs20 lo, [], 0⟩ := q19_S hlo (S19 hlo) mixed (tie_at (i := 31) rfl (by kernel_rfl) (by decide) (by kernel_rfl))
theorem S21 {lo : Lo} (hlo : LoOK lo) : Sound Tryd.prog fm ⟨pf, fs21 lo, [], 0⟩ := q20_S hlo (S20 hlo) mixed (tie_at (i := 50) rfl (by kernel_rfl) (by decide) (by kernel_rfl))
theorem S22 {lo : Lo} (hlo : LoOK lo) : Sound Tryd.prog fm ⟨pf, fs22 lo, [], 0⟩ := q21_S hlo (S21 hlo) mixed (tie_at (i := 32) rfl (by kernel_rfl) (by decide) (by kernel_rfl))
theorem S23 {lo : Lo} (hlo : LoOK lo) : Sound Tryd.prog fm ⟨pf, fs23 lo, [], 0⟩ := q22_S hlo (S22 hlo) mixed (tie_at (i := 13) rfl (by kernel_rfl) (by decide) (by kernel_rfl))
theorem S24 {lo : Lo} (hlo : LoOK lo) : Sound Tryd.prog fm ⟨pf, fs24 lo, [], 0⟩ := q23_S hlo (S23 hlo) mixed (tie_at (i := 15) rfl (by kernel_rfl) (by decide) (by kernel_rfl))
theorem S25 {lo : Lo} (hlo : LoOK lo) : Sound Tryd.prog fm ⟨pf, fs25 lo, [], 0⟩ := q24_S hlo (S24 hlo) mixed (tie_at (i := 14) rfl (by kernel_rfl) (by decide) (by kernel_rfl))
theorem S26 {lo : Lo} (hlo : LoOK lo) : Sound Tryd.prog fm ⟨pf, fs26 lo, [], 0⟩ := q25_S hlo (S25 hlo) mixed (tie_at (i := 83) rfl (by kernel_rfl) (by decide) (by kernel_rfl))
theorem S27 {lo : Lo} (hlo : LoOK lo) : Sound Tryd.prog fm ⟨pf, fs27 lo, [], 0⟩ := q26_S hlo (S26 hlo) mixed (tie_at (i := 71) rfl (by kernel_rfl) (by decide) (by kernel_rfl))
theorem S28 {lo : Lo} (hlo : LoOK lo) : Sound Tryd.prog fm ⟨pf, fs28 lo, [], 0⟩ := S27 hlo
theorem S29 {lo : Lo} (hlo : LoOK lo) : Sound Tryd.prog fm ⟨pf, fs29 lo, [], 0⟩ := S28 hlo
theorem S30 {lo : Lo} (hlo : LoOK lo) : Sound Tryd.prog fm ⟨pf, fs30 lo, [], 0⟩ := q29_S hlo (S29 hlo) mixed (tie_at (i := 82) rfl (by kernel_rfl) (by decide) (by kernel_rfl))
theorem S31 {lo : Lo} (hlo : LoOK lo) : Sound Tryd.prog fm ⟨pf, fs31 lo, [], 0⟩ := q30_S hlo (S30 hlo) mixed (tie_at (i := 73) rfl (by kernel_rfl) (by decide) (by kernel_rfl))
theorem S32 {lo : Lo} (hlo : LoOK lo) : Sound Tryd.prog fm ⟨pf, fs32 lo, [], 0⟩ := q31_S hlo (S31 hlo) mixed (tie_at (i := 56) rfl (by kernel_rfl) (by decide) (by kernel_rfl))
theorem S33 {lo : Lo} (hlo : LoOK lo) : Sound Tryd.prog fm ⟨pf, fs33 lo, [], 0⟩ := q32_S hlo (S32 hlo) mixed (tie_at (i := 59) rfl (by kernel_rfl) (by decide) (by kernel_rfl))
theorem onlyF {g i f : Nat} (h : onlyAt g fmL i 0 = true) (hg : g ≠ 0) (hf : fm f = g) : f = i := fm_only h hg hf
theorem hG169 : ∀ f, fm f = 169 → callable Tryd.prog f = true ∧ ∃ ρ : Go.Shelf.Ren, Go.Proofs.Lays.n156 Tryd.prog ρ ∧ Go.Proofs.Builder.Extra Tryd.prog ρ ∧ ρ.f 156 = f := fun f h => by
  have := onlyF (i := 60) (by kernel_rfl) (by decide) h; subst this
  exact ⟨by kernel_rfl, _, Tryd.lays156, Tryd.bextra, by kernel_rfl⟩
theorem S34 {lo : Lo} (hlo : LoOK lo) : Sound Tryd.prog fm ⟨pf, fs34 lo, [], 0⟩ := q33_S hlo (S33 hlo) mixed (hG169)
theorem S35 {lo : Lo} (hlo : LoOK lo) : Sound Tryd.prog fm ⟨pf, fs35 lo, [], 0⟩ := q34_S hlo (S34 hlo) mixed (tie_at (i := 74) rfl (by kernel_rfl) (by decide) (by kernel_rfl))
theorem S36 {lo : Lo} (hlo : LoOK lo) : Sound Tryd.prog fm ⟨pf, fs36 lo, [], 0⟩ := q35_S hlo (S35 hlo) mixed (tie_at (i := 58) rfl (by kernel_rfl) (by decide) (by kernel_rfl))
theorem S37 {lo : Lo} (hlo : LoOK lo) : Sound Tryd.prog fm ⟨pf, fs37 lo, [], 0⟩ := q36_S hlo (S36 hlo) mixed (tie_at (i := 57) rfl (by kernel_rfl) (by decide) (by kernel_rfl))
theorem S38 {lo : Lo} (hlo : LoOK lo) : Sound Tryd.prog fm ⟨pf, fs38 lo, [], 0⟩ := q37_S hlo (S37 hlo) mixed (tie_at (i := 47) rfl (by kernel_rfl) (by decide) (by kernel_rfl))
theorem bldOK : BldOK Tryd.prog fm Tryd.lays156_ren := ⟨Tryd.bextra, by kernel_rfl⟩
theorem hG164 : ∀ f, fm f = 164 → callable Tryd.prog f = true ∧ ∃ ρ : Go.Shelf.Ren, Go.Proofs.Lays.n240 Tryd.prog ρ ∧ BldOK Tryd.prog fm ρ ∧ ρ.f 240 = f := fun f h => by
  have := onlyF (i := 55) (by kernel_rfl) (by decide) h; subst this
  exact ⟨by kernel_rfl, _, Tryd.lays240', bldOK, by kernel_rfl⟩
theorem S39 {lo : Lo} (hlo : LoOK lo) : Sound Tryd.prog fm ⟨pf, fs39 lo, [], 0⟩ := q38_S hlo (S38 hlo) mixed (hG164)
theorem S40 {lo : Lo} (hlo : LoOK lo) : Sound Tryd.prog fm ⟨pf, fs40 lo, [], 0⟩ := q39_S hlo (S39 hlo) mixed (tie_at (i := 46) rfl (by kernel_rfl) (by decide) (by kernel_rfl))
theorem hG151 : ∀ f, fm f = 151 → callable Tryd.prog f = true ∧ ∃ ρ : Go.Shelf.Ren, Go.Proofs.Lays.n169 Tryd.prog ρ ∧ BldOK Tryd.prog fm ρ ∧ fm.bu = ρ.t 5 ∧ ρ.f 169 = f := fun f h => by
  have := onlyF (i := 48) (by kernel_rfl) (by decide) h; subst this
  exact ⟨by kernel_rfl, _, Tryd.lays169', bldOK, by kernel_rfl, by kernel_rfl⟩
theorem S41 {lo : Lo} (hlo : LoOK lo) : Sound Tryd.prog fm ⟨pf, fs41 lo, [], 0⟩ := q40_S hlo (S40 hlo) mixed (hG151)
theorem S42 {lo : Lo} (hlo : LoOK lo) : Sound Tryd.prog fm ⟨pf, fs42 lo, [], 0⟩ := q41_S hlo (S41 hlo) mixed (tie_at (i := 28) rfl (by kernel_rfl) (by decide) (by kernel_rfl))
theorem S43 {lo : Lo} (hlo : LoOK lo) : Sound Tryd.prog fm ⟨pf, fs43 lo, [], 0⟩ := q42_S hlo (S42 hlo) mixed (tie_at (i := 10) rfl (by kernel_rfl) (by decide) (by kernel_rfl))
theorem S44 {lo : Lo} (hlo : LoOK lo) : Sound Tryd.prog fm ⟨pf, fs44 lo, [], 0⟩ := q43_S hlo (S43 hlo) mixed (tie_at (i := 11) rfl (by kernel_rfl) (by decide) (by kernel_rfl))
theorem S45 {lo : Lo} (hlo : LoOK lo) : Sound Tryd.prog fm ⟨pf, fs45 lo, [], 0⟩ := S44 hlo
theorem S46 {lo : Lo} (hlo : LoOK lo) : Sound Tryd.prog fm ⟨pf, fs46 lo, [], 0⟩ := q45_S hlo (S45 hlo) mixed (tie_at (i := 39) rfl (by kernel_rfl) (by decide) (by kernel_rfl))
theorem S47 {lo : Lo} (hlo : LoOK lo) : Sound Tryd.prog fm ⟨pf, fs47 lo, [], 0⟩ := q46_S hlo (S46 hlo) mixed (tie_at (i := 18) rfl (by kernel_rfl) (by decide) (by kernel_rfl))
theorem S48 {lo : Lo} (hlo : LoOK lo) : Sound Tryd.prog fm ⟨pf, fs48 lo, [], 0⟩ := S47 hlo
theorem S49 {lo : Lo} (hlo : LoOK lo) : Sound Tryd.prog fm ⟨pf, fs49 lo, [], 0⟩ := S48 hlo
theorem S50 {lo : Lo} (hlo : LoOK lo) : Sound Tryd.prog fm ⟨pf, fs50 lo, [], 0⟩ := S49 hlo
theorem S51 {lo : Lo} (hlo : LoOK lo) : Sound Tryd.prog fm ⟨pf, fs51 lo, [], 0⟩ := S50 hlo
theorem S52 {lo : Lo} (hlo : LoOK lo) : Sound Tryd.prog fm ⟨pf, fs52 lo, [], 0⟩ := S51 hlo
theorem S53 {lo : Lo} (hlo : LoOK lo) : Sound Tryd.prog fm ⟨pf, fs53 lo, [], 0⟩ := S52 hlo
theorem S54 {lo : Lo} (hlo : LoOK lo) : Sound Tryd.prog fm ⟨pf, fs54 lo, [], 0⟩ := q53_S hlo (S53 hlo) mixed (tie_at (i := 54) rfl (by kernel_rfl) (by decide) (by kernel_rfl))
theorem S55 {lo : Lo} (hlo : LoOK lo) : Sound Tryd.prog fm ⟨pf, fs55 lo, [], 0⟩ := q54_S hlo (S54 hlo) mixed (tie_at (i := 81) rfl (by kernel_rfl) (by decide) (by kernel_rfl))
theorem S56 {lo : Lo} (hlo : LoOK lo) : Sound Tryd.prog fm ⟨pf, fs56 lo, [], 0⟩ := q55_S hlo (S55 hlo) mixed (tie_at (i := 67) rfl (by kernel_rfl) (by decide) (by kernel_rfl))
theorem S57 {lo : Lo} (hlo : LoOK lo) : Sound Tryd.prog fm ⟨pf, fs57 lo, [], 0⟩ := q56_S hlo (S56 hlo) mixed (tie_at (i := 61) rfl (by kernel_rfl) (by decide) (by kernel_rfl))
theorem S58 {lo : Lo} (hlo : LoOK lo) : Sound Tryd.prog fm ⟨pf, fs58 lo, [], 0⟩ := q57_S hlo (S57 hlo) mixed trivial
theorem S59 {lo : Lo} (hlo : LoOK lo) : Sound Tryd.prog fm ⟨pf, fs59 lo, [], 0⟩ := q58_S hlo (S58 hlo) mixed trivial
theorem S60 {lo : Lo} (hlo : LoOK lo) : Sound Tryd.prog fm ⟨pf, fs60 lo, [], 0⟩ := q59_S hlo (S59 hlo) mixed trivial
theorem S61 {lo : Lo} (hlo : LoOK lo) : Sound Tryd.prog fm ⟨pf, fs61 lo, [], 0⟩ := q60_S hlo (S60 hlo) mixed trivial
theorem S62 {lo : Lo} (hlo : LoOK lo) : Sound Tryd.prog fm ⟨pf, fs62 lo, [], 0⟩ := q61_S hlo (S61 hlo) mixed trivial
theorem S63 {lo : Lo} (hlo : LoOK lo) : Sound Tryd.prog fm ⟨pf, fs63 lo, [], 0⟩ := q62_S hlo (S62 hlo) mixed trivial
theorem S64 {lo : Lo} (hlo : LoOK lo) : Sound Tryd.prog fm ⟨pf, fs64 lo, [], 0⟩ := q63_S hlo (S63 hlo) mixed trivial
theorem S65 {lo : Lo} (hlo : LoOK lo) : Sound Tryd.prog fm ⟨pf, fs65 lo, [], 0⟩ := q64_S hlo (S64 hlo) mixed (tie_at (i := 53) rfl (by kernel_rfl) (by decide) (by kernel_rfl))
theorem S66 {lo : Lo} (hlo : LoOK lo) : Sound Tryd.prog fm ⟨pf, fs66 lo, [], 0⟩ := q65_S hlo (S65 hlo) mixed (tie_at (i := 44) rfl (by kernel_rfl) (by decide) (by kernel_rfl))
theorem hG147 : ∀ f, fm f = 147 → callable Tryd.prog f = true ∧ ∃ ρ : Go.Shelf.Ren, Go.Proofs.Lays.n189 Tryd.prog ρ ∧ ρ.f 189 = f := fun f h => by
  have := onlyF (i := 44) (by kernel_rfl) (by decide) h; subst this
  exact ⟨by kernel_rfl, _, Tryd.lays189, by kernel_rfl⟩
theorem S67 {lo : Lo} (hlo : LoOK lo) : Sound Tryd.prog fm ⟨pf, fs67 lo, [], 0⟩ := q66_S hlo (S66 hlo) mixed (hG147)
theorem hG148 : ∀ f, fm f = 148 → callable Tryd.prog f = true ∧ ∃ ρ : Go.Shelf.Ren, Go.Proofs.Lays2.n20 Tryd.prog ρ ∧ ρ.f 20 = f := fun f h => by
  have := onlyF (i := 45) (by kernel_rfl) (by decide) h; subst this
  exact ⟨by kernel_rfl, _, Tryd.lays2_20, by kernel_rfl⟩
theorem S68 {lo : Lo} (hlo : LoOK lo) : Sound Tryd.prog fm ⟨pf, fs68 lo, [], 0⟩ := q67_S hlo (S67 hlo) mixed (hG148)
theorem S69 {lo : Lo} (hlo : LoOK lo) : Sound Tryd.prog fm ⟨pf, fs69 lo, [], 0⟩ := q68_S hlo (S68 hlo) mixed (tie_at (i := 23) rfl (by kernel_rfl) (by decide) (by kernel_rfl))
theorem S70 {lo : Lo} (hlo : LoOK lo) : Sound Tryd.prog fm ⟨pf, fs70 lo, [], 0⟩ := q69_S hlo (S69 hlo) mixed (tie_at (i := 25) rfl (by kernel_rfl) (by decide) (by kernel_rfl))
theorem S71 {lo : Lo} (hlo : LoOK lo) : Sound Tryd.prog fm ⟨pf, fs71 lo, [], 0⟩ := q70_S hlo (S70 hlo) mixed (tie_at (i := 24) rfl (by kernel_rfl) (by decide) (by kernel_rfl))
theorem S72 {lo : Lo} (hlo : LoOK lo) : Sound Tryd.prog fm ⟨pf, fs72 lo, [], 0⟩ := q71_S hlo (S71 hlo) mixed (tie_at (i := 8) rfl (by kernel_rfl) (by decide) (by kernel_rfl))
end Go.Abs.G12
