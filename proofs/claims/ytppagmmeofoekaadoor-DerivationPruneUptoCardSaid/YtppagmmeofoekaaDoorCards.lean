/-
  DERIVED. GIVEN WITH THE SEED: THE CARDS: each row of YtppagmmeofoekaaDoorRows.lean that lists a variable, with what it lists TIED to the program's text (the seventh form; the later family's looks); each row that meets fmt, with fmt's text TOLD by the authors' own Lean function (tested against real Go, not proved from fmt's source: count such statements apart). THE CARD IS WHAT COUNTS. Prove the row's statement (the work); the ties are given (YtppagmmeofoekaaDoorTie.lean); close each card by the builder's one call (the guide's Derived/Test/ToyasCard.lean, 'card_holds'). Laid BY PROGRAM, IN A SANDBOX (cutbox-door.mjs). By AI agents, Wed Nov 11 2026. No macro, syntax, notation, axiom, sorry.
-/
import Derived.Test.YtppagmmeofoekaaDoorRows
import GoSem.ClaimSeven
namespace Go.Proofs.YtppagmmeofoekaaDoor
namespace Rows

/-- THE TIED CARD OF 'drosslaw12.DerivationCheck'. -/
def derivationCheckCard : Claim7 := { stood := { row := derivationCheckRow, standIns := [], harness := (true, "1ef57d54702810c897e2eda224055617a28835e27bb53610c6a9d7226007621e"), looks := false }, kinds := [], alts := [], laidByText := true, laidKinds := [.data, .data, .data], laidTests := true, laidLooks := .later }
def DerivationCheckCardSaid : Prop := Claim7.holds Tryd.pinned (.plain (OpenSpec.ofChange derivationCheckSpec)) derivationCheckCard

/-- THE TIED CARD OF 'drosslaw12.DerivationErrors'. -/
def derivationErrorsCard : Claim7 := { stood := { row := derivationErrorsRow, standIns := [], harness := (true, "1ef57d54702810c897e2eda224055617a28835e27bb53610c6a9d7226007621e"), looks := false }, kinds := [], alts := [], laidByText := true, laidKinds := [.data, .data, .data], laidTests := true, laidLooks := .later }
def DerivationErrorsCardSaid : Prop := Claim7.holds Tryd.pinned (.plain (OpenSpec.ofChange derivationErrorsSpec)) derivationErrorsCard

/-- THE TIED CARD OF 'drosslaw12.DerivationSound'. -/
def derivationSoundCard : Claim7 := { stood := { row := derivationSoundRow, standIns := [], harness := (true, "1ef57d54702810c897e2eda224055617a28835e27bb53610c6a9d7226007621e"), looks := false }, kinds := [], alts := [], laidByText := true, laidKinds := [.data, .data, .data], laidTests := true, laidLooks := .later }
def DerivationSoundCardSaid : Prop := Claim7.holds Tryd.pinned (.plain (OpenSpec.ofChange derivationSoundSpec)) derivationSoundCard

/-- THE TIED CARD OF 'drosslaw12.DerivationProve'. -/
def derivationProveCard : Claim7 := { stood := { row := derivationProveRow, standIns := [], harness := (true, "1ef57d54702810c897e2eda224055617a28835e27bb53610c6a9d7226007621e"), looks := false }, kinds := [], alts := [], laidByText := true, laidKinds := [.data, .data, .data], laidTests := true, laidLooks := .later }
def DerivationProveCardSaid : Prop := Claim7.holds Tryd.pinned (.plain (OpenSpec.ofChange derivationProveSpec)) derivationProveCard

/-- THE TIED CARD OF 'drosslaw12.DerivationPrune'. -/
def derivationPruneCard : Claim7 := { stood := { row := derivationPruneRow, standIns := [], harness := (true, "1ef57d54702810c897e2eda224055617a28835e27bb53610c6a9d7226007621e"), looks := false }, kinds := [], alts := [], laidByText := true, laidKinds := [.data, .data, .data], laidTests := true, laidLooks := .later }
def DerivationPruneCardSaid : Prop := Claim7.holds Tryd.pinned (.plain (OpenSpec.ofChange derivationPruneSpec)) derivationPruneCard

/-- THE TIED CARD OF 'drosslaw12.DerivationUsed'. -/
def derivationUsedCard : Claim7 := { stood := { row := derivationUsedRow, standIns := [], harness := (true, "1ef57d54702810c897e2eda224055617a28835e27bb53610c6a9d7226007621e"), looks := false }, kinds := [], alts := [], laidByText := true, laidKinds := [.data, .data, .data], laidTests := true, laidLooks := .later }
def DerivationUsedCardSaid : Prop := Claim7.holds Tryd.pinned (.plain (OpenSpec.ofChange derivationUsedSpec)) derivationUsedCard

/-- THE SECOND FORM's CARD OF 'drosslaw12.DerivationCheck'. -/
def derivationCheckUptoCard : Claim7 := { stood := { row := derivationCheckUptoRow, standIns := [], harness := (true, "1ef57d54702810c897e2eda224055617a28835e27bb53610c6a9d7226007621e"), looks := false }, kinds := [], alts := [], laidByText := true, laidKinds := [.data, .data, .data], laidTests := true, laidLooks := .later }
def DerivationCheckUptoCardSaid : Prop := Claim7.holds Tryd.pinned (.plain (OpenSpec.upto derivationCheckSpec)) derivationCheckUptoCard

/-- THE SECOND FORM's CARD OF 'drosslaw12.DerivationErrors'. -/
def derivationErrorsUptoCard : Claim7 := { stood := { row := derivationErrorsUptoRow, standIns := [], harness := (true, "1ef57d54702810c897e2eda224055617a28835e27bb53610c6a9d7226007621e"), looks := false }, kinds := [], alts := [], laidByText := true, laidKinds := [.data, .data, .data], laidTests := true, laidLooks := .later }
def DerivationErrorsUptoCardSaid : Prop := Claim7.holds Tryd.pinned (.plain (OpenSpec.upto derivationErrorsSpec)) derivationErrorsUptoCard

/-- THE SECOND FORM's CARD OF 'drosslaw12.DerivationSound'. -/
def derivationSoundUptoCard : Claim7 := { stood := { row := derivationSoundUptoRow, standIns := [], harness := (true, "1ef57d54702810c897e2eda224055617a28835e27bb53610c6a9d7226007621e"), looks := false }, kinds := [], alts := [], laidByText := true, laidKinds := [.data, .data, .data], laidTests := true, laidLooks := .later }
def DerivationSoundUptoCardSaid : Prop := Claim7.holds Tryd.pinned (.plain (OpenSpec.upto derivationSoundSpec)) derivationSoundUptoCard

/-- THE SECOND FORM's CARD OF 'drosslaw12.DerivationProve'. -/
def derivationProveUptoCard : Claim7 := { stood := { row := derivationProveUptoRow, standIns := [], harness := (true, "1ef57d54702810c897e2eda224055617a28835e27bb53610c6a9d7226007621e"), looks := false }, kinds := [], alts := [], laidByText := true, laidKinds := [.data, .data, .data], laidTests := true, laidLooks := .later }
def DerivationProveUptoCardSaid : Prop := Claim7.holds Tryd.pinned (.plain (OpenSpec.upto derivationProveSpec)) derivationProveUptoCard

/-- THE SECOND FORM's CARD OF 'drosslaw12.DerivationPrune'. -/
def derivationPruneUptoCard : Claim7 := { stood := { row := derivationPruneUptoRow, standIns := [], harness := (true, "1ef57d54702810c897e2eda224055617a28835e27bb53610c6a9d7226007621e"), looks := false }, kinds := [], alts := [], laidByText := true, laidKinds := [.data, .data, .data], laidTests := true, laidLooks := .later }
def DerivationPruneUptoCardSaid : Prop := Claim7.holds Tryd.pinned (.plain (OpenSpec.upto derivationPruneSpec)) derivationPruneUptoCard

/-- THE SECOND FORM's CARD OF 'drosslaw12.DerivationUsed'. -/
def derivationUsedUptoCard : Claim7 := { stood := { row := derivationUsedUptoRow, standIns := [], harness := (true, "1ef57d54702810c897e2eda224055617a28835e27bb53610c6a9d7226007621e"), looks := false }, kinds := [], alts := [], laidByText := true, laidKinds := [.data, .data, .data], laidTests := true, laidLooks := .later }
def DerivationUsedUptoCardSaid : Prop := Claim7.holds Tryd.pinned (.plain (OpenSpec.upto derivationUsedSpec)) derivationUsedUptoCard
end Rows
end Go.Proofs.YtppagmmeofoekaaDoor
