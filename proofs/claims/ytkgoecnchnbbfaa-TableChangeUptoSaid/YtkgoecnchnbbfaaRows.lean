/-
  No cell of these rows narrows 'for every input' (looked for: loops, veiled, ifaces, maps, wideKeys, modest, calm, conditions, laid).
  DERIVED. THE GIVEN ROWS OF THIS SEAT. 10 by the template 'for every input the law returns true; each argument reads behind the call as it read before'; 0 by the template 'total and deterministic' (their statements: YtkgoecnchnbbfaaTotals.lean).
  GIVEN WITH THE SEED: the statements are not yours to turn. If you find one false, say at which input.
  Laid BY PROGRAM, IN A SANDBOX (cutbox-rows.mjs): the forced cells as the released guide's own fill.sh prints them over the translation 1a0dc72caa58019b… (all of the seat's roots in one cut). By AI agents, Wed Nov 11 2026. No macro, syntax, notation, axiom, sorry.
-/
import Derived.Test.YtkgoecnchnbbfaaChecked
import GoSem.Claim
import GoSem.ClaimJoined
import GoSem.ClaimMapViews
import Derived.JoinedTies
import Derived.KernelRfl
namespace Go.Proofs.Ytkgoecnchnbbfaa
/- THE CELL 'sum', in the pinned program and in every row, IS THE sha256 OF THE DUMP (.gsa) THAT YtkgoecnchnbbfaaProg.lean LOADS. Nothing in Lean hashes anything: it is a label: what it is worth is what the hold of that sum in a sandbox is worth. -/
noncomputable def Try.pinned : Pinned := { name := "ytkgoecnchnbbfaa", sum := "1a0dc72caa58019b8d09b6e8ba8de632effb1e5ae7b755668ffa92695bfe498b", checked := Try.checked }
namespace Rows
def none {H : Type} : Left H := { results := [], args := [] }

/-- 'drosslaw03.TableValid': WHATEVER THE INPUT: true; the input reads as it did. -/
def tableValidSpec : ChangeSpec := { name := "tableValid", fn := fun _ => fun
  | [d] => { results := [.lit (.bool true)], args := [d] }
  | _ => none }
def tableValidRow : OpenClaim := { program := "ytkgoecnchnbbfaa", sum := "1a0dc72caa58019b8d09b6e8ba8de632effb1e5ae7b755668ffa92695bfe498b", func := "dross/drosslaw03.TableValid", spec := "tableValid", inPlace := ["internal/abi.NoEscape"], unfollowed := true, recurses := true, apart := false }
def TableValidSaid : Prop := tableValidRow.holds Try.pinned (OpenSpec.ofChange tableValidSpec)

/-- ITS FALSE NEIGHBOUR: 'it returns false'. Refute it at one input. -/
def tableValidWrong : ChangeSpec := { name := "tableValid", fn := fun _ => fun
  | [d] => { results := [.lit (.bool false)], args := [d] }
  | _ => none }
def TableValidWrongFalsely : Prop := tableValidRow.holds Try.pinned (OpenSpec.ofChange tableValidWrong)

/-- 'drosslaw03.TableProject': WHATEVER THE INPUT: true; the input reads as it did. -/
def tableProjectSpec : ChangeSpec := { name := "tableProject", fn := fun _ => fun
  | [d1, d2] => { results := [.lit (.bool true)], args := [d1, d2] }
  | _ => none }
def tableProjectRow : OpenClaim := { program := "ytkgoecnchnbbfaa", sum := "1a0dc72caa58019b8d09b6e8ba8de632effb1e5ae7b755668ffa92695bfe498b", func := "dross/drosslaw03.TableProject", spec := "tableProject", inPlace := ["internal/abi.NoEscape"], unfollowed := true, recurses := true, apart := false }
def TableProjectSaid : Prop := tableProjectRow.holds Try.pinned (OpenSpec.ofChange tableProjectSpec)

/-- ITS FALSE NEIGHBOUR: 'it returns false'. Refute it at one input. -/
def tableProjectWrong : ChangeSpec := { name := "tableProject", fn := fun _ => fun
  | [d1, d2] => { results := [.lit (.bool false)], args := [d1, d2] }
  | _ => none }
def TableProjectWrongFalsely : Prop := tableProjectRow.holds Try.pinned (OpenSpec.ofChange tableProjectWrong)

/-- 'drosslaw03.TableJoin': WHATEVER THE INPUT: true; the input reads as it did. -/
def tableJoinSpec : ChangeSpec := { name := "tableJoin", fn := fun _ => fun
  | [d1, d2] => { results := [.lit (.bool true)], args := [d1, d2] }
  | _ => none }
def tableJoinRow : OpenClaim := { program := "ytkgoecnchnbbfaa", sum := "1a0dc72caa58019b8d09b6e8ba8de632effb1e5ae7b755668ffa92695bfe498b", func := "dross/drosslaw03.TableJoin", spec := "tableJoin", inPlace := ["internal/abi.NoEscape"], unfollowed := true, recurses := true, apart := false }
def TableJoinSaid : Prop := tableJoinRow.holds Try.pinned (OpenSpec.ofChange tableJoinSpec)

/-- ITS FALSE NEIGHBOUR: 'it returns false'. Refute it at one input. -/
def tableJoinWrong : ChangeSpec := { name := "tableJoin", fn := fun _ => fun
  | [d1, d2] => { results := [.lit (.bool false)], args := [d1, d2] }
  | _ => none }
def TableJoinWrongFalsely : Prop := tableJoinRow.holds Try.pinned (OpenSpec.ofChange tableJoinWrong)

/-- 'drosslaw03.TableParts': WHATEVER THE INPUT: true; the input reads as it did. -/
def tablePartsSpec : ChangeSpec := { name := "tableParts", fn := fun _ => fun
  | [d1, d2] => { results := [.lit (.bool true)], args := [d1, d2] }
  | _ => none }
def tablePartsRow : OpenClaim := { program := "ytkgoecnchnbbfaa", sum := "1a0dc72caa58019b8d09b6e8ba8de632effb1e5ae7b755668ffa92695bfe498b", func := "dross/drosslaw03.TableParts", spec := "tableParts", inPlace := ["internal/abi.NoEscape"], unfollowed := true, recurses := true, apart := false }
def TablePartsSaid : Prop := tablePartsRow.holds Try.pinned (OpenSpec.ofChange tablePartsSpec)

/-- ITS FALSE NEIGHBOUR: 'it returns false'. Refute it at one input. -/
def tablePartsWrong : ChangeSpec := { name := "tableParts", fn := fun _ => fun
  | [d1, d2] => { results := [.lit (.bool false)], args := [d1, d2] }
  | _ => none }
def TablePartsWrongFalsely : Prop := tablePartsRow.holds Try.pinned (OpenSpec.ofChange tablePartsWrong)

/-- 'drosslaw03.TableSame': WHATEVER THE INPUT: true; the input reads as it did. -/
def tableSameSpec : ChangeSpec := { name := "tableSame", fn := fun _ => fun
  | [d1, d2] => { results := [.lit (.bool true)], args := [d1, d2] }
  | _ => none }
def tableSameRow : OpenClaim := { program := "ytkgoecnchnbbfaa", sum := "1a0dc72caa58019b8d09b6e8ba8de632effb1e5ae7b755668ffa92695bfe498b", func := "dross/drosslaw03.TableSame", spec := "tableSame", inPlace := ["internal/abi.NoEscape"], unfollowed := true, recurses := true, apart := false }
def TableSameSaid : Prop := tableSameRow.holds Try.pinned (OpenSpec.ofChange tableSameSpec)

/-- ITS FALSE NEIGHBOUR: 'it returns false'. Refute it at one input. -/
def tableSameWrong : ChangeSpec := { name := "tableSame", fn := fun _ => fun
  | [d1, d2] => { results := [.lit (.bool false)], args := [d1, d2] }
  | _ => none }
def TableSameWrongFalsely : Prop := tableSameRow.holds Try.pinned (OpenSpec.ofChange tableSameWrong)

/-- 'drosslaw03.TableFind': WHATEVER THE INPUT: true; the input reads as it did. -/
def tableFindSpec : ChangeSpec := { name := "tableFind", fn := fun _ => fun
  | [d1, d2, d3] => { results := [.lit (.bool true)], args := [d1, d2, d3] }
  | _ => none }
def tableFindRow : OpenClaim := { program := "ytkgoecnchnbbfaa", sum := "1a0dc72caa58019b8d09b6e8ba8de632effb1e5ae7b755668ffa92695bfe498b", func := "dross/drosslaw03.TableFind", spec := "tableFind", inPlace := ["internal/abi.NoEscape"], unfollowed := true, recurses := true, apart := false }
def TableFindSaid : Prop := tableFindRow.holds Try.pinned (OpenSpec.ofChange tableFindSpec)

/-- ITS FALSE NEIGHBOUR: 'it returns false'. Refute it at one input. -/
def tableFindWrong : ChangeSpec := { name := "tableFind", fn := fun _ => fun
  | [d1, d2, d3] => { results := [.lit (.bool false)], args := [d1, d2, d3] }
  | _ => none }
def TableFindWrongFalsely : Prop := tableFindRow.holds Try.pinned (OpenSpec.ofChange tableFindWrong)

/-- 'drosslaw03.TableChange': WHATEVER THE INPUT: true; the input reads as it did. -/
def tableChangeSpec : ChangeSpec := { name := "tableChange", fn := fun _ => fun
  | [d1, d2, d3] => { results := [.lit (.bool true)], args := [d1, d2, d3] }
  | _ => none }
def tableChangeRow : OpenClaim := { program := "ytkgoecnchnbbfaa", sum := "1a0dc72caa58019b8d09b6e8ba8de632effb1e5ae7b755668ffa92695bfe498b", func := "dross/drosslaw03.TableChange", spec := "tableChange", inPlace := ["internal/abi.NoEscape"], unfollowed := true, recurses := true, apart := false }
def TableChangeSaid : Prop := tableChangeRow.holds Try.pinned (OpenSpec.ofChange tableChangeSpec)

/-- ITS FALSE NEIGHBOUR: 'it returns false'. Refute it at one input. -/
def tableChangeWrong : ChangeSpec := { name := "tableChange", fn := fun _ => fun
  | [d1, d2, d3] => { results := [.lit (.bool false)], args := [d1, d2, d3] }
  | _ => none }
def TableChangeWrongFalsely : Prop := tableChangeRow.holds Try.pinned (OpenSpec.ofChange tableChangeWrong)

/-- 'drosslaw03.TableDelete': WHATEVER THE INPUT: true; the input reads as it did. -/
def tableDeleteSpec : ChangeSpec := { name := "tableDelete", fn := fun _ => fun
  | [d1, d2] => { results := [.lit (.bool true)], args := [d1, d2] }
  | _ => none }
def tableDeleteRow : OpenClaim := { program := "ytkgoecnchnbbfaa", sum := "1a0dc72caa58019b8d09b6e8ba8de632effb1e5ae7b755668ffa92695bfe498b", func := "dross/drosslaw03.TableDelete", spec := "tableDelete", inPlace := ["internal/abi.NoEscape"], unfollowed := true, recurses := true, apart := false }
def TableDeleteSaid : Prop := tableDeleteRow.holds Try.pinned (OpenSpec.ofChange tableDeleteSpec)

/-- ITS FALSE NEIGHBOUR: 'it returns false'. Refute it at one input. -/
def tableDeleteWrong : ChangeSpec := { name := "tableDelete", fn := fun _ => fun
  | [d1, d2] => { results := [.lit (.bool false)], args := [d1, d2] }
  | _ => none }
def TableDeleteWrongFalsely : Prop := tableDeleteRow.holds Try.pinned (OpenSpec.ofChange tableDeleteWrong)

/-- 'drosslaw03.TableFull': WHATEVER THE INPUT: true; the input reads as it did. -/
def tableFullSpec : ChangeSpec := { name := "tableFull", fn := fun _ => fun
  | [d1, d2] => { results := [.lit (.bool true)], args := [d1, d2] }
  | _ => none }
def tableFullRow : OpenClaim := { program := "ytkgoecnchnbbfaa", sum := "1a0dc72caa58019b8d09b6e8ba8de632effb1e5ae7b755668ffa92695bfe498b", func := "dross/drosslaw03.TableFull", spec := "tableFull", inPlace := ["internal/abi.NoEscape", "slices.overlaps[dross/api.Row]"], unfollowed := true, recurses := true, apart := false }
def TableFullSaid : Prop := tableFullRow.holds Try.pinned (OpenSpec.ofChange tableFullSpec)

/-- ITS FALSE NEIGHBOUR: 'it returns false'. Refute it at one input. -/
def tableFullWrong : ChangeSpec := { name := "tableFull", fn := fun _ => fun
  | [d1, d2] => { results := [.lit (.bool false)], args := [d1, d2] }
  | _ => none }
def TableFullWrongFalsely : Prop := tableFullRow.holds Try.pinned (OpenSpec.ofChange tableFullWrong)

/-- 'drosslaw03.TableInsert': WHATEVER THE INPUT: true; the input reads as it did. -/
def tableInsertSpec : ChangeSpec := { name := "tableInsert", fn := fun _ => fun
  | [d1, d2] => { results := [.lit (.bool true)], args := [d1, d2] }
  | _ => none }
def tableInsertRow : OpenClaim := { program := "ytkgoecnchnbbfaa", sum := "1a0dc72caa58019b8d09b6e8ba8de632effb1e5ae7b755668ffa92695bfe498b", func := "dross/drosslaw03.TableInsert", spec := "tableInsert", inPlace := ["internal/abi.NoEscape", "slices.overlaps[dross/api.Row]"], unfollowed := true, recurses := true, apart := false }
def TableInsertSaid : Prop := tableInsertRow.holds Try.pinned (OpenSpec.ofChange tableInsertSpec)

/-- ITS FALSE NEIGHBOUR: 'it returns false'. Refute it at one input. -/
def tableInsertWrong : ChangeSpec := { name := "tableInsert", fn := fun _ => fun
  | [d1, d2] => { results := [.lit (.bool false)], args := [d1, d2] }
  | _ => none }
def TableInsertWrongFalsely : Prop := tableInsertRow.holds Try.pinned (OpenSpec.ofChange tableInsertWrong)

/- THE SECOND FORM. 'bulk': how many values and letters a reading holds, each counted each time it is reached (what is shared counts as often as it is met; a slice's spare places count too). A statement '..UptoSaid' is the law's where the arguments, and the package variables that the reading takes, are together of bulk at most 1048576: NARROWER than '..Said'. Prove '..Said' where nothing that the law and all that it calls make is longer than what came in: it says more and counts as full. Else prove '..UptoSaid'. A law counts once. -/
mutual
def uptoBulk {H : Type} : DataW H → Nat
  | .lit (.string bytes) => bytes.length + 1
  | .lit _ => 1
  | .nil => 1
  | .ptr d => uptoBulk d + 1
  | .slice elems spare => uptoBulkAll elems + uptoBulkAll spare + 1
  | .agg parts => uptoBulkAll parts + 1
  | .iface _ d => uptoBulk d + 1
  | .map entries => uptoBulkEntries entries + 1
  | .held _ => 1
def uptoBulkAll {H : Type} : List (DataW H) → Nat
  | [] => 0
  | d :: r => uptoBulk d + uptoBulkAll r
def uptoBulkEntries {H : Type} : List (Lit × DataW H) → Nat
  | [] => 0
  | x :: r => uptoBulkEntry x + uptoBulkEntries r
def uptoBulkEntry {H : Type} : Lit × DataW H → Nat
  | (.string bytes, d) => bytes.length + uptoBulk d + 1
  | (_, d) => uptoBulk d + 1
 end
def uptoSmall : (H : Type) → List (DataW H) → Bool := fun _ ds => decide (uptoBulkAll ds ≤ 1048576)
def OpenSpec.upto (s : _root_.Go.ChangeSpec) : _root_.Go.OpenSpec := { _root_.Go.OpenSpec.ofChange s with cond := some uptoSmall }

/-- 'drosslaw03.TableValid', WHERE WHAT IT READS IS OF BULK AT MOST 1048576: true; the input reads as it did. -/
def tableValidUptoRow : OpenClaim := { program := "ytkgoecnchnbbfaa", sum := "1a0dc72caa58019b8d09b6e8ba8de632effb1e5ae7b755668ffa92695bfe498b", func := "dross/drosslaw03.TableValid", spec := "tableValid", inPlace := ["internal/abi.NoEscape"], unfollowed := true, recurses := true, apart := false, narrowed := true }
def TableValidUptoSaid : Prop := tableValidUptoRow.holds Try.pinned (OpenSpec.upto tableValidSpec)

/-- 'drosslaw03.TableProject', WHERE WHAT IT READS IS OF BULK AT MOST 1048576: true; the input reads as it did. -/
def tableProjectUptoRow : OpenClaim := { program := "ytkgoecnchnbbfaa", sum := "1a0dc72caa58019b8d09b6e8ba8de632effb1e5ae7b755668ffa92695bfe498b", func := "dross/drosslaw03.TableProject", spec := "tableProject", inPlace := ["internal/abi.NoEscape"], unfollowed := true, recurses := true, apart := false, narrowed := true }
def TableProjectUptoSaid : Prop := tableProjectUptoRow.holds Try.pinned (OpenSpec.upto tableProjectSpec)

/-- 'drosslaw03.TableJoin', WHERE WHAT IT READS IS OF BULK AT MOST 1048576: true; the input reads as it did. -/
def tableJoinUptoRow : OpenClaim := { program := "ytkgoecnchnbbfaa", sum := "1a0dc72caa58019b8d09b6e8ba8de632effb1e5ae7b755668ffa92695bfe498b", func := "dross/drosslaw03.TableJoin", spec := "tableJoin", inPlace := ["internal/abi.NoEscape"], unfollowed := true, recurses := true, apart := false, narrowed := true }
def TableJoinUptoSaid : Prop := tableJoinUptoRow.holds Try.pinned (OpenSpec.upto tableJoinSpec)

/-- 'drosslaw03.TableParts', WHERE WHAT IT READS IS OF BULK AT MOST 1048576: true; the input reads as it did. -/
def tablePartsUptoRow : OpenClaim := { program := "ytkgoecnchnbbfaa", sum := "1a0dc72caa58019b8d09b6e8ba8de632effb1e5ae7b755668ffa92695bfe498b", func := "dross/drosslaw03.TableParts", spec := "tableParts", inPlace := ["internal/abi.NoEscape"], unfollowed := true, recurses := true, apart := false, narrowed := true }
def TablePartsUptoSaid : Prop := tablePartsUptoRow.holds Try.pinned (OpenSpec.upto tablePartsSpec)

/-- 'drosslaw03.TableSame', WHERE WHAT IT READS IS OF BULK AT MOST 1048576: true; the input reads as it did. -/
def tableSameUptoRow : OpenClaim := { program := "ytkgoecnchnbbfaa", sum := "1a0dc72caa58019b8d09b6e8ba8de632effb1e5ae7b755668ffa92695bfe498b", func := "dross/drosslaw03.TableSame", spec := "tableSame", inPlace := ["internal/abi.NoEscape"], unfollowed := true, recurses := true, apart := false, narrowed := true }
def TableSameUptoSaid : Prop := tableSameUptoRow.holds Try.pinned (OpenSpec.upto tableSameSpec)

/-- 'drosslaw03.TableFind', WHERE WHAT IT READS IS OF BULK AT MOST 1048576: true; the input reads as it did. -/
def tableFindUptoRow : OpenClaim := { program := "ytkgoecnchnbbfaa", sum := "1a0dc72caa58019b8d09b6e8ba8de632effb1e5ae7b755668ffa92695bfe498b", func := "dross/drosslaw03.TableFind", spec := "tableFind", inPlace := ["internal/abi.NoEscape"], unfollowed := true, recurses := true, apart := false, narrowed := true }
def TableFindUptoSaid : Prop := tableFindUptoRow.holds Try.pinned (OpenSpec.upto tableFindSpec)

/-- 'drosslaw03.TableChange', WHERE WHAT IT READS IS OF BULK AT MOST 1048576: true; the input reads as it did. -/
def tableChangeUptoRow : OpenClaim := { program := "ytkgoecnchnbbfaa", sum := "1a0dc72caa58019b8d09b6e8ba8de632effb1e5ae7b755668ffa92695bfe498b", func := "dross/drosslaw03.TableChange", spec := "tableChange", inPlace := ["internal/abi.NoEscape"], unfollowed := true, recurses := true, apart := false, narrowed := true }
def TableChangeUptoSaid : Prop := tableChangeUptoRow.holds Try.pinned (OpenSpec.upto tableChangeSpec)

/-- 'drosslaw03.TableDelete', WHERE WHAT IT READS IS OF BULK AT MOST 1048576: true; the input reads as it did. -/
def tableDeleteUptoRow : OpenClaim := { program := "ytkgoecnchnbbfaa", sum := "1a0dc72caa58019b8d09b6e8ba8de632effb1e5ae7b755668ffa92695bfe498b", func := "dross/drosslaw03.TableDelete", spec := "tableDelete", inPlace := ["internal/abi.NoEscape"], unfollowed := true, recurses := true, apart := false, narrowed := true }
def TableDeleteUptoSaid : Prop := tableDeleteUptoRow.holds Try.pinned (OpenSpec.upto tableDeleteSpec)

/-- 'drosslaw03.TableFull', WHERE WHAT IT READS IS OF BULK AT MOST 1048576: true; the input reads as it did. -/
def tableFullUptoRow : OpenClaim := { program := "ytkgoecnchnbbfaa", sum := "1a0dc72caa58019b8d09b6e8ba8de632effb1e5ae7b755668ffa92695bfe498b", func := "dross/drosslaw03.TableFull", spec := "tableFull", inPlace := ["internal/abi.NoEscape", "slices.overlaps[dross/api.Row]"], unfollowed := true, recurses := true, apart := false, narrowed := true }
def TableFullUptoSaid : Prop := tableFullUptoRow.holds Try.pinned (OpenSpec.upto tableFullSpec)

/-- 'drosslaw03.TableInsert', WHERE WHAT IT READS IS OF BULK AT MOST 1048576: true; the input reads as it did. -/
def tableInsertUptoRow : OpenClaim := { program := "ytkgoecnchnbbfaa", sum := "1a0dc72caa58019b8d09b6e8ba8de632effb1e5ae7b755668ffa92695bfe498b", func := "dross/drosslaw03.TableInsert", spec := "tableInsert", inPlace := ["internal/abi.NoEscape", "slices.overlaps[dross/api.Row]"], unfollowed := true, recurses := true, apart := false, narrowed := true }
def TableInsertUptoSaid : Prop := tableInsertUptoRow.holds Try.pinned (OpenSpec.upto tableInsertSpec)

end Rows
end Go.Proofs.Ytkgoecnchnbbfaa
