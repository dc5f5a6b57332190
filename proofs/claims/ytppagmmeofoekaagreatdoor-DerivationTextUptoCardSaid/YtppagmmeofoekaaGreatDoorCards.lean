/-
  DERIVED. GIVEN WITH THE SEED: THE CARDS: each row of YtppagmmeofoekaaGreatDoorRows.lean that lists a variable, with what it lists TIED to the program's text (the seventh form; the later family's looks); each row that meets fmt, with fmt's text TOLD by the authors' own Lean function (tested against real Go, not proved from fmt's source: count such statements apart). THE CARD IS WHAT COUNTS. Prove the row's statement (the work); the ties are given (YtppagmmeofoekaaGreatDoorTie.lean); close each card by the builder's one call (the guide's Derived/Test/ToyasCard.lean, 'card_holds'). Laid BY PROGRAM, IN A SANDBOX (cutbox-door.mjs). By AI agents, Wed Nov 11 2026. No macro, syntax, notation, axiom, sorry.
-/
import Derived.Test.YtppagmmeofoekaaGreatDoorRows
import GoSem.ClaimSeven
namespace Go.Proofs.YtppagmmeofoekaaGreatDoor
namespace Rows

/-- THE TIED CARD OF 'drosslaw12.DerivationText'. -/
def derivationTextCard : Claim7 := { stood := { row := derivationTextRow, standIns := [], harness := (true, "236a8342ea4dbcb9fa2c8709e69ea058fa5f75b11de1ef59c83228b3d3940e17"), looks := true }, kinds := [], alts := [], laidByText := true, laidKinds := [.data, .data, .data, .data, .sentinel, .sentinel, .pinned], laidTests := true, laidLooks := .later }
def DerivationTextCardSaid : Prop := Claim7.holds Tryz.pinned (.plain (OpenSpec.ofChange derivationTextSpec)) derivationTextCard

/-- THE TIED CARD OF 'drosslaw12.DerivationParse'. -/
def derivationParseCard : Claim7 := { stood := { row := derivationParseRow, standIns := [], harness := (true, "236a8342ea4dbcb9fa2c8709e69ea058fa5f75b11de1ef59c83228b3d3940e17"), looks := true }, kinds := [], alts := [], laidByText := true, laidKinds := [.data, .data, .data, .data, .sentinel, .sentinel, .pinned], laidTests := true, laidLooks := .later }
def DerivationParseCardSaid : Prop := Claim7.holds Tryz.pinned (.plain (OpenSpec.ofChange derivationParseSpec)) derivationParseCard

/-- THE SECOND FORM's CARD OF 'drosslaw12.DerivationText'. -/
def derivationTextUptoCard : Claim7 := { stood := { row := derivationTextUptoRow, standIns := [], harness := (true, "236a8342ea4dbcb9fa2c8709e69ea058fa5f75b11de1ef59c83228b3d3940e17"), looks := true }, kinds := [], alts := [], laidByText := true, laidKinds := [.data, .data, .data, .data, .sentinel, .sentinel, .pinned], laidTests := true, laidLooks := .later }
def DerivationTextUptoCardSaid : Prop := Claim7.holds Tryz.pinned (.plain (OpenSpec.upto derivationTextSpec)) derivationTextUptoCard

/-- THE SECOND FORM's CARD OF 'drosslaw12.DerivationParse'. -/
def derivationParseUptoCard : Claim7 := { stood := { row := derivationParseUptoRow, standIns := [], harness := (true, "236a8342ea4dbcb9fa2c8709e69ea058fa5f75b11de1ef59c83228b3d3940e17"), looks := true }, kinds := [], alts := [], laidByText := true, laidKinds := [.data, .data, .data, .data, .sentinel, .sentinel, .pinned], laidTests := true, laidLooks := .later }
def DerivationParseUptoCardSaid : Prop := Claim7.holds Tryz.pinned (.plain (OpenSpec.upto derivationParseSpec)) derivationParseUptoCard
end Rows
end Go.Proofs.YtppagmmeofoekaaGreatDoor
