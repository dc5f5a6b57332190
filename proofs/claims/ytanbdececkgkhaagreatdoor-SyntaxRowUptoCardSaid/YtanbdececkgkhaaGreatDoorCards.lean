/-
  DERIVED. GIVEN WITH THE SEED: THE CARDS: each row of YtanbdececkgkhaaGreatDoorRows.lean that lists a variable, with what it lists TIED to the program's text (the seventh form; the later family's looks); each row that meets fmt, with fmt's text TOLD by the authors' own Lean function (tested against real Go, not proved from fmt's source: count such statements apart). THE CARD IS WHAT COUNTS. Prove the row's statement (the work); the ties are given (YtanbdececkgkhaaGreatDoorTie.lean); close each card by the builder's one call (the guide's Derived/Test/ToyasCard.lean, 'card_holds'). Laid BY PROGRAM, IN A SANDBOX (cutbox-door.mjs). By AI agents, Wed Nov 11 2026. No macro, syntax, notation, axiom, sorry.
-/
import Derived.Test.YtanbdececkgkhaaGreatDoorRows
import GoSem.ClaimSeven
namespace Go.Proofs.YtanbdececkgkhaaGreatDoor
namespace Rows

/-- THE TIED CARD OF 'drosslaw57.SyntaxRow'. -/
def syntaxRowCard : Claim7 := { stood := { row := syntaxRowRow, standIns := [], harness := (true, "e1f19d19c121d00825700eea50d72fa6d4482e3b12da1bbd37fd03fefe9501c9"), looks := true }, kinds := [], alts := [], laidByText := true, laidKinds := [.data, .data, .data, .sentinel, .sentinel, .widerDeep, .widerDeep, .widerDeep], laidTests := true, laidLooks := .later }
def SyntaxRowCardSaid : Prop := Claim7.holds Tryz.pinned (.plain (OpenSpec.ofChange syntaxRowSpec)) syntaxRowCard

/-- THE SECOND FORM's CARD OF 'drosslaw57.SyntaxRow'. -/
def syntaxRowUptoCard : Claim7 := { stood := { row := syntaxRowUptoRow, standIns := [], harness := (true, "e1f19d19c121d00825700eea50d72fa6d4482e3b12da1bbd37fd03fefe9501c9"), looks := true }, kinds := [], alts := [], laidByText := true, laidKinds := [.data, .data, .data, .sentinel, .sentinel, .widerDeep, .widerDeep, .widerDeep], laidTests := true, laidLooks := .later }
def SyntaxRowUptoCardSaid : Prop := Claim7.holds Tryz.pinned (.plain (OpenSpec.upto syntaxRowSpec)) syntaxRowUptoCard
end Rows
end Go.Proofs.YtanbdececkgkhaaGreatDoor
