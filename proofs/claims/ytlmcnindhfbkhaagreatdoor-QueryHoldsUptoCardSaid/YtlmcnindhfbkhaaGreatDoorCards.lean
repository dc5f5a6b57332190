/-
  DERIVED. GIVEN WITH THE SEED: THE CARDS: each row of YtlmcnindhfbkhaaGreatDoorRows.lean that lists a variable, with what it lists TIED to the program's text (the seventh form; the later family's looks); each row that meets fmt, with fmt's text TOLD by the authors' own Lean function (tested against real Go, not proved from fmt's source: count such statements apart). THE CARD IS WHAT COUNTS. Prove the row's statement (the work); the ties are given (YtlmcnindhfbkhaaGreatDoorTie.lean); close each card by the builder's one call (the guide's Derived/Test/ToyasCard.lean, 'card_holds'). Laid BY PROGRAM, IN A SANDBOX (cutbox-door.mjs). By AI agents, Wed Nov 11 2026. No macro, syntax, notation, axiom, sorry.
-/
import Derived.Test.YtlmcnindhfbkhaaGreatDoorRows
import GoSem.ClaimSeven
namespace Go.Proofs.YtlmcnindhfbkhaaGreatDoor
namespace Rows

/-- THE TIED CARD OF 'drosslaw47.QueryValid'. -/
def queryValidCard : Claim7 := { stood := { row := queryValidRow, standIns := [], harness := (true, "1b6b3c8391fd4510d26cbaa1c120170ff06a32dbaf1baec913de66d8bef16d27"), looks := false }, kinds := [], alts := [], laidByText := true, laidKinds := [.data, .data, .data], laidTests := true, laidLooks := .later }
def QueryValidCardSaid : Prop := Claim7.holds Tryz.pinned (.plain (OpenSpec.ofChange queryValidSpec)) queryValidCard

/-- THE TIED CARD OF 'drosslaw47.QueryAnswers'. -/
def queryAnswersCard : Claim7 := { stood := { row := queryAnswersRow, standIns := [], harness := (true, "1b6b3c8391fd4510d26cbaa1c120170ff06a32dbaf1baec913de66d8bef16d27"), looks := false }, kinds := [], alts := [], laidByText := true, laidKinds := [.data, .data, .data], laidTests := true, laidLooks := .later }
def QueryAnswersCardSaid : Prop := Claim7.holds Tryz.pinned (.plain (OpenSpec.ofChange queryAnswersSpec)) queryAnswersCard

/-- THE TIED CARD OF 'drosslaw47.QueryHomomorphism'. -/
def queryHomomorphismCard : Claim7 := { stood := { row := queryHomomorphismRow, standIns := [], harness := (true, "1b6b3c8391fd4510d26cbaa1c120170ff06a32dbaf1baec913de66d8bef16d27"), looks := false }, kinds := [], alts := [], laidByText := true, laidKinds := [.data, .data, .data], laidTests := true, laidLooks := .later }
def QueryHomomorphismCardSaid : Prop := Claim7.holds Tryz.pinned (.plain (OpenSpec.ofChange queryHomomorphismSpec)) queryHomomorphismCard

/-- THE TIED CARD OF 'drosslaw47.QueryContained'. -/
def queryContainedCard : Claim7 := { stood := { row := queryContainedRow, standIns := [], harness := (true, "1b6b3c8391fd4510d26cbaa1c120170ff06a32dbaf1baec913de66d8bef16d27"), looks := false }, kinds := [], alts := [], laidByText := true, laidKinds := [.data, .data, .data], laidTests := true, laidLooks := .later }
def QueryContainedCardSaid : Prop := Claim7.holds Tryz.pinned (.plain (OpenSpec.ofChange queryContainedSpec)) queryContainedCard

/-- THE TIED CARD OF 'drosslaw47.QueryMinimal'. -/
def queryMinimalCard : Claim7 := { stood := { row := queryMinimalRow, standIns := [], harness := (true, "1b6b3c8391fd4510d26cbaa1c120170ff06a32dbaf1baec913de66d8bef16d27"), looks := false }, kinds := [], alts := [], laidByText := true, laidKinds := [.data, .data, .data], laidTests := true, laidLooks := .later }
def QueryMinimalCardSaid : Prop := Claim7.holds Tryz.pinned (.plain (OpenSpec.ofChange queryMinimalSpec)) queryMinimalCard

/-- THE TIED CARD OF 'drosslaw47.QueryReduced'. -/
def queryReducedCard : Claim7 := { stood := { row := queryReducedRow, standIns := [], harness := (true, "1b6b3c8391fd4510d26cbaa1c120170ff06a32dbaf1baec913de66d8bef16d27"), looks := false }, kinds := [], alts := [], laidByText := true, laidKinds := [.data, .data, .data], laidTests := true, laidLooks := .later }
def QueryReducedCardSaid : Prop := Claim7.holds Tryz.pinned (.plain (OpenSpec.ofChange queryReducedSpec)) queryReducedCard

/-- THE TIED CARD OF 'drosslaw47.QueryFormat'. -/
def queryFormatCard : Claim7 := { stood := { row := queryFormatRow, standIns := [], harness := (true, "1b6b3c8391fd4510d26cbaa1c120170ff06a32dbaf1baec913de66d8bef16d27"), looks := false }, kinds := [], alts := [], laidByText := true, laidKinds := [.data, .data, .data], laidTests := true, laidLooks := .later }
def QueryFormatCardSaid : Prop := Claim7.holds Tryz.pinned (.plain (OpenSpec.ofChange queryFormatSpec)) queryFormatCard

/-- THE TIED CARD OF 'drosslaw47.QueryMonotone'. -/
def queryMonotoneCard : Claim7 := { stood := { row := queryMonotoneRow, standIns := [], harness := (true, "1b6b3c8391fd4510d26cbaa1c120170ff06a32dbaf1baec913de66d8bef16d27"), looks := false }, kinds := [], alts := [], laidByText := true, laidKinds := [.data, .data, .data], laidTests := true, laidLooks := .later }
def QueryMonotoneCardSaid : Prop := Claim7.holds Tryz.pinned (.plain (OpenSpec.ofChange queryMonotoneSpec)) queryMonotoneCard

/-- THE TIED CARD OF 'drosslaw47.QueryHolds'. -/
def queryHoldsCard : Claim7 := { stood := { row := queryHoldsRow, standIns := [], harness := (true, "1b6b3c8391fd4510d26cbaa1c120170ff06a32dbaf1baec913de66d8bef16d27"), looks := false }, kinds := [], alts := [], laidByText := true, laidKinds := [.data, .data, .data], laidTests := true, laidLooks := .later }
def QueryHoldsCardSaid : Prop := Claim7.holds Tryz.pinned (.plain (OpenSpec.ofChange queryHoldsSpec)) queryHoldsCard

/-- THE TIED CARD OF 'drosslaw47.QueryErrors'. -/
def queryErrorsCard : Claim7 := { stood := { row := queryErrorsRow, standIns := [], harness := (true, "1b6b3c8391fd4510d26cbaa1c120170ff06a32dbaf1baec913de66d8bef16d27"), looks := false }, kinds := [], alts := [], laidByText := true, laidKinds := [.data, .data, .data], laidTests := true, laidLooks := .later }
def QueryErrorsCardSaid : Prop := Claim7.holds Tryz.pinned (.plain (OpenSpec.ofChange queryErrorsSpec)) queryErrorsCard

/-- THE SECOND FORM's CARD OF 'drosslaw47.QueryValid'. -/
def queryValidUptoCard : Claim7 := { stood := { row := queryValidUptoRow, standIns := [], harness := (true, "1b6b3c8391fd4510d26cbaa1c120170ff06a32dbaf1baec913de66d8bef16d27"), looks := false }, kinds := [], alts := [], laidByText := true, laidKinds := [.data, .data, .data], laidTests := true, laidLooks := .later }
def QueryValidUptoCardSaid : Prop := Claim7.holds Tryz.pinned (.plain (OpenSpec.upto queryValidSpec)) queryValidUptoCard

/-- THE SECOND FORM's CARD OF 'drosslaw47.QueryAnswers'. -/
def queryAnswersUptoCard : Claim7 := { stood := { row := queryAnswersUptoRow, standIns := [], harness := (true, "1b6b3c8391fd4510d26cbaa1c120170ff06a32dbaf1baec913de66d8bef16d27"), looks := false }, kinds := [], alts := [], laidByText := true, laidKinds := [.data, .data, .data], laidTests := true, laidLooks := .later }
def QueryAnswersUptoCardSaid : Prop := Claim7.holds Tryz.pinned (.plain (OpenSpec.upto queryAnswersSpec)) queryAnswersUptoCard

/-- THE SECOND FORM's CARD OF 'drosslaw47.QueryHomomorphism'. -/
def queryHomomorphismUptoCard : Claim7 := { stood := { row := queryHomomorphismUptoRow, standIns := [], harness := (true, "1b6b3c8391fd4510d26cbaa1c120170ff06a32dbaf1baec913de66d8bef16d27"), looks := false }, kinds := [], alts := [], laidByText := true, laidKinds := [.data, .data, .data], laidTests := true, laidLooks := .later }
def QueryHomomorphismUptoCardSaid : Prop := Claim7.holds Tryz.pinned (.plain (OpenSpec.upto queryHomomorphismSpec)) queryHomomorphismUptoCard

/-- THE SECOND FORM's CARD OF 'drosslaw47.QueryContained'. -/
def queryContainedUptoCard : Claim7 := { stood := { row := queryContainedUptoRow, standIns := [], harness := (true, "1b6b3c8391fd4510d26cbaa1c120170ff06a32dbaf1baec913de66d8bef16d27"), looks := false }, kinds := [], alts := [], laidByText := true, laidKinds := [.data, .data, .data], laidTests := true, laidLooks := .later }
def QueryContainedUptoCardSaid : Prop := Claim7.holds Tryz.pinned (.plain (OpenSpec.upto queryContainedSpec)) queryContainedUptoCard

/-- THE SECOND FORM's CARD OF 'drosslaw47.QueryMinimal'. -/
def queryMinimalUptoCard : Claim7 := { stood := { row := queryMinimalUptoRow, standIns := [], harness := (true, "1b6b3c8391fd4510d26cbaa1c120170ff06a32dbaf1baec913de66d8bef16d27"), looks := false }, kinds := [], alts := [], laidByText := true, laidKinds := [.data, .data, .data], laidTests := true, laidLooks := .later }
def QueryMinimalUptoCardSaid : Prop := Claim7.holds Tryz.pinned (.plain (OpenSpec.upto queryMinimalSpec)) queryMinimalUptoCard

/-- THE SECOND FORM's CARD OF 'drosslaw47.QueryReduced'. -/
def queryReducedUptoCard : Claim7 := { stood := { row := queryReducedUptoRow, standIns := [], harness := (true, "1b6b3c8391fd4510d26cbaa1c120170ff06a32dbaf1baec913de66d8bef16d27"), looks := false }, kinds := [], alts := [], laidByText := true, laidKinds := [.data, .data, .data], laidTests := true, laidLooks := .later }
def QueryReducedUptoCardSaid : Prop := Claim7.holds Tryz.pinned (.plain (OpenSpec.upto queryReducedSpec)) queryReducedUptoCard

/-- THE SECOND FORM's CARD OF 'drosslaw47.QueryFormat'. -/
def queryFormatUptoCard : Claim7 := { stood := { row := queryFormatUptoRow, standIns := [], harness := (true, "1b6b3c8391fd4510d26cbaa1c120170ff06a32dbaf1baec913de66d8bef16d27"), looks := false }, kinds := [], alts := [], laidByText := true, laidKinds := [.data, .data, .data], laidTests := true, laidLooks := .later }
def QueryFormatUptoCardSaid : Prop := Claim7.holds Tryz.pinned (.plain (OpenSpec.upto queryFormatSpec)) queryFormatUptoCard

/-- THE SECOND FORM's CARD OF 'drosslaw47.QueryMonotone'. -/
def queryMonotoneUptoCard : Claim7 := { stood := { row := queryMonotoneUptoRow, standIns := [], harness := (true, "1b6b3c8391fd4510d26cbaa1c120170ff06a32dbaf1baec913de66d8bef16d27"), looks := false }, kinds := [], alts := [], laidByText := true, laidKinds := [.data, .data, .data], laidTests := true, laidLooks := .later }
def QueryMonotoneUptoCardSaid : Prop := Claim7.holds Tryz.pinned (.plain (OpenSpec.upto queryMonotoneSpec)) queryMonotoneUptoCard

/-- THE SECOND FORM's CARD OF 'drosslaw47.QueryHolds'. -/
def queryHoldsUptoCard : Claim7 := { stood := { row := queryHoldsUptoRow, standIns := [], harness := (true, "1b6b3c8391fd4510d26cbaa1c120170ff06a32dbaf1baec913de66d8bef16d27"), looks := false }, kinds := [], alts := [], laidByText := true, laidKinds := [.data, .data, .data], laidTests := true, laidLooks := .later }
def QueryHoldsUptoCardSaid : Prop := Claim7.holds Tryz.pinned (.plain (OpenSpec.upto queryHoldsSpec)) queryHoldsUptoCard

/-- THE SECOND FORM's CARD OF 'drosslaw47.QueryErrors'. -/
def queryErrorsUptoCard : Claim7 := { stood := { row := queryErrorsUptoRow, standIns := [], harness := (true, "1b6b3c8391fd4510d26cbaa1c120170ff06a32dbaf1baec913de66d8bef16d27"), looks := false }, kinds := [], alts := [], laidByText := true, laidKinds := [.data, .data, .data], laidTests := true, laidLooks := .later }
def QueryErrorsUptoCardSaid : Prop := Claim7.holds Tryz.pinned (.plain (OpenSpec.upto queryErrorsSpec)) queryErrorsUptoCard
end Rows
end Go.Proofs.YtlmcnindhfbkhaaGreatDoor
