/-
  No cell of these rows narrows 'for every input' (looked for: loops, veiled, ifaces, maps, wideKeys, modest, calm, conditions, laid).
  DERIVED. THE GIVEN ROWS OF THIS SEAT. 8 by the template 'for every input the law returns true; each argument reads behind the call as it read before'; 0 by the template 'total and deterministic' (their statements: YtgjoneiojhakgaaTotals.lean).
  GIVEN WITH THE SEED: the statements are not yours to turn. If you find one false, say at which input.
  Laid BY PROGRAM, IN A SANDBOX (cutbox-rows.mjs): the forced cells as the released guide's own fill.sh prints them over the translation 6324cb4984a8ec7f… (all of the seat's roots in one cut). By AI agents, Wed Nov 11 2026. No macro, syntax, notation, axiom, sorry.
-/
import Derived.Test.YtgjoneiojhakgaaChecked
import GoSem.Claim
import GoSem.ClaimJoined
import GoSem.ClaimMapViews
import Derived.JoinedTies
import Derived.KernelRfl
namespace Go.Proofs.Ytgjoneiojhakgaa
/- THE CELL 'sum', in the pinned program and in every row, IS THE sha256 OF THE DUMP (.gsa) THAT YtgjoneiojhakgaaProg.lean LOADS. Nothing in Lean hashes anything: it is a label: what it is worth is what the hold of that sum in a sandbox is worth. -/
noncomputable def Try.pinned : Pinned := { name := "ytgjoneiojhakgaa", sum := "6324cb4984a8ec7f3b5dd1d49980b78d7b986a1bef8203cb0565bbe2c93c8b02", checked := Try.checked }
namespace Rows
def none {H : Type} : Left H := { results := [], args := [] }

/-- 'drosslaw35.IndexNew': WHATEVER THE INPUT: true; the input reads as it did. -/
def indexNewSpec : ChangeSpec := { name := "indexNew", fn := fun _ => fun
  | [d1, d2] => { results := [.lit (.bool true)], args := [d1, d2] }
  | _ => none }
def indexNewRow : OpenClaim := { program := "ytgjoneiojhakgaa", sum := "6324cb4984a8ec7f3b5dd1d49980b78d7b986a1bef8203cb0565bbe2c93c8b02", func := "dross/drosslaw35.IndexNew", spec := "indexNew", inPlace := ["internal/abi.NoEscape", "slices.overlaps[int64]"], unfollowed := true, recurses := true, apart := false }
def IndexNewSaid : Prop := indexNewRow.holds Try.pinned (OpenSpec.ofChange indexNewSpec)

/-- ITS FALSE NEIGHBOUR: 'it returns false'. Refute it at one input. -/
def indexNewWrong : ChangeSpec := { name := "indexNew", fn := fun _ => fun
  | [d1, d2] => { results := [.lit (.bool false)], args := [d1, d2] }
  | _ => none }
def IndexNewWrongFalsely : Prop := indexNewRow.holds Try.pinned (OpenSpec.ofChange indexNewWrong)

/-- 'drosslaw35.IndexOrder': WHATEVER THE INPUT: true; the input reads as it did. -/
def indexOrderSpec : ChangeSpec := { name := "indexOrder", fn := fun _ => fun
  | [d1, d2, d3] => { results := [.lit (.bool true)], args := [d1, d2, d3] }
  | _ => none }
def indexOrderRow : OpenClaim := { program := "ytgjoneiojhakgaa", sum := "6324cb4984a8ec7f3b5dd1d49980b78d7b986a1bef8203cb0565bbe2c93c8b02", func := "dross/drosslaw35.IndexOrder", spec := "indexOrder", inPlace := ["internal/abi.NoEscape", "slices.overlaps[int64]"], unfollowed := true, recurses := true, apart := false }
def IndexOrderSaid : Prop := indexOrderRow.holds Try.pinned (OpenSpec.ofChange indexOrderSpec)

/-- ITS FALSE NEIGHBOUR: 'it returns false'. Refute it at one input. -/
def indexOrderWrong : ChangeSpec := { name := "indexOrder", fn := fun _ => fun
  | [d1, d2, d3] => { results := [.lit (.bool false)], args := [d1, d2, d3] }
  | _ => none }
def IndexOrderWrongFalsely : Prop := indexOrderRow.holds Try.pinned (OpenSpec.ofChange indexOrderWrong)

/-- 'drosslaw35.IndexHolds': WHATEVER THE INPUT: true; the input reads as it did. -/
def indexHoldsSpec : ChangeSpec := { name := "indexHolds", fn := fun _ => fun
  | [d1, d2, d3] => { results := [.lit (.bool true)], args := [d1, d2, d3] }
  | _ => none }
def indexHoldsRow : OpenClaim := { program := "ytgjoneiojhakgaa", sum := "6324cb4984a8ec7f3b5dd1d49980b78d7b986a1bef8203cb0565bbe2c93c8b02", func := "dross/drosslaw35.IndexHolds", spec := "indexHolds", inPlace := ["internal/abi.NoEscape", "slices.overlaps[int64]"], unfollowed := true, recurses := true, apart := false }
def IndexHoldsSaid : Prop := indexHoldsRow.holds Try.pinned (OpenSpec.ofChange indexHoldsSpec)

/-- ITS FALSE NEIGHBOUR: 'it returns false'. Refute it at one input. -/
def indexHoldsWrong : ChangeSpec := { name := "indexHolds", fn := fun _ => fun
  | [d1, d2, d3] => { results := [.lit (.bool false)], args := [d1, d2, d3] }
  | _ => none }
def IndexHoldsWrongFalsely : Prop := indexHoldsRow.holds Try.pinned (OpenSpec.ofChange indexHoldsWrong)

/-- 'drosslaw35.IndexChanges': WHATEVER THE INPUT: true; the input reads as it did. -/
def indexChangesSpec : ChangeSpec := { name := "indexChanges", fn := fun _ => fun
  | [d1, d2] => { results := [.lit (.bool true)], args := [d1, d2] }
  | _ => none }
def indexChangesRow : OpenClaim := { program := "ytgjoneiojhakgaa", sum := "6324cb4984a8ec7f3b5dd1d49980b78d7b986a1bef8203cb0565bbe2c93c8b02", func := "dross/drosslaw35.IndexChanges", spec := "indexChanges", inPlace := ["internal/abi.NoEscape", "slices.overlaps[int64]"], unfollowed := true, recurses := true, apart := false }
def IndexChangesSaid : Prop := indexChangesRow.holds Try.pinned (OpenSpec.ofChange indexChangesSpec)

/-- ITS FALSE NEIGHBOUR: 'it returns false'. Refute it at one input. -/
def indexChangesWrong : ChangeSpec := { name := "indexChanges", fn := fun _ => fun
  | [d1, d2] => { results := [.lit (.bool false)], args := [d1, d2] }
  | _ => none }
def IndexChangesWrongFalsely : Prop := indexChangesRow.holds Try.pinned (OpenSpec.ofChange indexChangesWrong)

/-- 'drosslaw35.IndexAdd': WHATEVER THE INPUT: true; the input reads as it did. -/
def indexAddSpec : ChangeSpec := { name := "indexAdd", fn := fun _ => fun
  | [d1, d2, d3] => { results := [.lit (.bool true)], args := [d1, d2, d3] }
  | _ => none }
def indexAddRow : OpenClaim := { program := "ytgjoneiojhakgaa", sum := "6324cb4984a8ec7f3b5dd1d49980b78d7b986a1bef8203cb0565bbe2c93c8b02", func := "dross/drosslaw35.IndexAdd", spec := "indexAdd", inPlace := ["internal/abi.NoEscape", "slices.overlaps[int64]"], unfollowed := true, recurses := true, apart := false }
def IndexAddSaid : Prop := indexAddRow.holds Try.pinned (OpenSpec.ofChange indexAddSpec)

/-- ITS FALSE NEIGHBOUR: 'it returns false'. Refute it at one input. -/
def indexAddWrong : ChangeSpec := { name := "indexAdd", fn := fun _ => fun
  | [d1, d2, d3] => { results := [.lit (.bool false)], args := [d1, d2, d3] }
  | _ => none }
def IndexAddWrongFalsely : Prop := indexAddRow.holds Try.pinned (OpenSpec.ofChange indexAddWrong)

/-- 'drosslaw35.IndexDiffering': WHATEVER THE INPUT: true; the input reads as it did. -/
def indexDifferingSpec : ChangeSpec := { name := "indexDiffering", fn := fun _ => fun
  | [d1, d2, d3] => { results := [.lit (.bool true)], args := [d1, d2, d3] }
  | _ => none }
def indexDifferingRow : OpenClaim := { program := "ytgjoneiojhakgaa", sum := "6324cb4984a8ec7f3b5dd1d49980b78d7b986a1bef8203cb0565bbe2c93c8b02", func := "dross/drosslaw35.IndexDiffering", spec := "indexDiffering", inPlace := ["internal/abi.NoEscape", "slices.overlaps[int64]"], unfollowed := true, recurses := true, apart := false }
def IndexDifferingSaid : Prop := indexDifferingRow.holds Try.pinned (OpenSpec.ofChange indexDifferingSpec)

/-- ITS FALSE NEIGHBOUR: 'it returns false'. Refute it at one input. -/
def indexDifferingWrong : ChangeSpec := { name := "indexDiffering", fn := fun _ => fun
  | [d1, d2, d3] => { results := [.lit (.bool false)], args := [d1, d2, d3] }
  | _ => none }
def IndexDifferingWrongFalsely : Prop := indexDifferingRow.holds Try.pinned (OpenSpec.ofChange indexDifferingWrong)

/-- 'drosslaw35.IndexMemory': WHATEVER THE INPUT: true; the input reads as it did. -/
def indexMemorySpec : ChangeSpec := { name := "indexMemory", fn := fun _ => fun
  | [d1, d2, d3] => { results := [.lit (.bool true)], args := [d1, d2, d3] }
  | _ => none }
def indexMemoryRow : OpenClaim := { program := "ytgjoneiojhakgaa", sum := "6324cb4984a8ec7f3b5dd1d49980b78d7b986a1bef8203cb0565bbe2c93c8b02", func := "dross/drosslaw35.IndexMemory", spec := "indexMemory", inPlace := ["internal/abi.NoEscape", "slices.overlaps[int64]"], unfollowed := true, recurses := true, apart := false }
def IndexMemorySaid : Prop := indexMemoryRow.holds Try.pinned (OpenSpec.ofChange indexMemorySpec)

/-- ITS FALSE NEIGHBOUR: 'it returns false'. Refute it at one input. -/
def indexMemoryWrong : ChangeSpec := { name := "indexMemory", fn := fun _ => fun
  | [d1, d2, d3] => { results := [.lit (.bool false)], args := [d1, d2, d3] }
  | _ => none }
def IndexMemoryWrongFalsely : Prop := indexMemoryRow.holds Try.pinned (OpenSpec.ofChange indexMemoryWrong)

/-- 'drosslaw35.IndexGroup': WHATEVER THE INPUT: true; the input reads as it did. -/
def indexGroupSpec : ChangeSpec := { name := "indexGroup", fn := fun _ => fun
  | [d1, d2, d3] => { results := [.lit (.bool true)], args := [d1, d2, d3] }
  | _ => none }
def indexGroupRow : OpenClaim := { program := "ytgjoneiojhakgaa", sum := "6324cb4984a8ec7f3b5dd1d49980b78d7b986a1bef8203cb0565bbe2c93c8b02", func := "dross/drosslaw35.IndexGroup", spec := "indexGroup", inPlace := ["internal/abi.NoEscape", "slices.overlaps[int64]"], unfollowed := true, recurses := true, apart := false }
def IndexGroupSaid : Prop := indexGroupRow.holds Try.pinned (OpenSpec.ofChange indexGroupSpec)

/-- ITS FALSE NEIGHBOUR: 'it returns false'. Refute it at one input. -/
def indexGroupWrong : ChangeSpec := { name := "indexGroup", fn := fun _ => fun
  | [d1, d2, d3] => { results := [.lit (.bool false)], args := [d1, d2, d3] }
  | _ => none }
def IndexGroupWrongFalsely : Prop := indexGroupRow.holds Try.pinned (OpenSpec.ofChange indexGroupWrong)

/- THE SECOND FORM. 'bulk': how many values and letters a reading holds, each counted each time it is reached (what is shared counts as often as it is met; a slice's spare places count too). A statement '..UptoSaid' is the law's where the arguments, and the package variables that the reading takes, are together of bulk at most 1048576: NARROWER than '..Said'. Prove '..Said' where nothing that the law and all that it calls make is longer than what came in: it says more and counts as full. Else prove '..UptoSaid'. A law counts once. -/
mutual
def uptoBulk {H : Type} : DataW H → Nat
  | .lit (.string bytes) => bytes.length + 1
  | .lit _ => 1
  | .nil => 1
  | .ptr d => uptoBulk d + 1
  | .slice elems spare => uptoBulkAll elems + uptoBulkAll spare + 1
  | .agg parts => uptoBulkAll parts + 1
  | .iface _ d => uptoBulk d + 1
  | .map entries => uptoBulkEntries entries + 1
  | .held _ => 1
def uptoBulkAll {H : Type} : List (DataW H) → Nat
  | [] => 0
  | d :: r => uptoBulk d + uptoBulkAll r
def uptoBulkEntries {H : Type} : List (Lit × DataW H) → Nat
  | [] => 0
  | x :: r => uptoBulkEntry x + uptoBulkEntries r
def uptoBulkEntry {H : Type} : Lit × DataW H → Nat
  | (.string bytes, d) => bytes.length + uptoBulk d + 1
  | (_, d) => uptoBulk d + 1
 end
def uptoSmall : (H : Type) → List (DataW H) → Bool := fun _ ds => decide (uptoBulkAll ds ≤ 1048576)
def OpenSpec.upto (s : _root_.Go.ChangeSpec) : _root_.Go.OpenSpec := { _root_.Go.OpenSpec.ofChange s with cond := some uptoSmall }

/-- 'drosslaw35.IndexNew', WHERE WHAT IT READS IS OF BULK AT MOST 1048576: true; the input reads as it did. -/
def indexNewUptoRow : OpenClaim := { program := "ytgjoneiojhakgaa", sum := "6324cb4984a8ec7f3b5dd1d49980b78d7b986a1bef8203cb0565bbe2c93c8b02", func := "dross/drosslaw35.IndexNew", spec := "indexNew", inPlace := ["internal/abi.NoEscape", "slices.overlaps[int64]"], unfollowed := true, recurses := true, apart := false, narrowed := true }
def IndexNewUptoSaid : Prop := indexNewUptoRow.holds Try.pinned (OpenSpec.upto indexNewSpec)

/-- 'drosslaw35.IndexOrder', WHERE WHAT IT READS IS OF BULK AT MOST 1048576: true; the input reads as it did. -/
def indexOrderUptoRow : OpenClaim := { program := "ytgjoneiojhakgaa", sum := "6324cb4984a8ec7f3b5dd1d49980b78d7b986a1bef8203cb0565bbe2c93c8b02", func := "dross/drosslaw35.IndexOrder", spec := "indexOrder", inPlace := ["internal/abi.NoEscape", "slices.overlaps[int64]"], unfollowed := true, recurses := true, apart := false, narrowed := true }
def IndexOrderUptoSaid : Prop := indexOrderUptoRow.holds Try.pinned (OpenSpec.upto indexOrderSpec)

/-- 'drosslaw35.IndexHolds', WHERE WHAT IT READS IS OF BULK AT MOST 1048576: true; the input reads as it did. -/
def indexHoldsUptoRow : OpenClaim := { program := "ytgjoneiojhakgaa", sum := "6324cb4984a8ec7f3b5dd1d49980b78d7b986a1bef8203cb0565bbe2c93c8b02", func := "dross/drosslaw35.IndexHolds", spec := "indexHolds", inPlace := ["internal/abi.NoEscape", "slices.overlaps[int64]"], unfollowed := true, recurses := true, apart := false, narrowed := true }
def IndexHoldsUptoSaid : Prop := indexHoldsUptoRow.holds Try.pinned (OpenSpec.upto indexHoldsSpec)

/-- 'drosslaw35.IndexChanges', WHERE WHAT IT READS IS OF BULK AT MOST 1048576: true; the input reads as it did. -/
def indexChangesUptoRow : OpenClaim := { program := "ytgjoneiojhakgaa", sum := "6324cb4984a8ec7f3b5dd1d49980b78d7b986a1bef8203cb0565bbe2c93c8b02", func := "dross/drosslaw35.IndexChanges", spec := "indexChanges", inPlace := ["internal/abi.NoEscape", "slices.overlaps[int64]"], unfollowed := true, recurses := true, apart := false, narrowed := true }
def IndexChangesUptoSaid : Prop := indexChangesUptoRow.holds Try.pinned (OpenSpec.upto indexChangesSpec)

/-- 'drosslaw35.IndexAdd', WHERE WHAT IT READS IS OF BULK AT MOST 1048576: true; the input reads as it did. -/
def indexAddUptoRow : OpenClaim := { program := "ytgjoneiojhakgaa", sum := "6324cb4984a8ec7f3b5dd1d49980b78d7b986a1bef8203cb0565bbe2c93c8b02", func := "dross/drosslaw35.IndexAdd", spec := "indexAdd", inPlace := ["internal/abi.NoEscape", "slices.overlaps[int64]"], unfollowed := true, recurses := true, apart := false, narrowed := true }
def IndexAddUptoSaid : Prop := indexAddUptoRow.holds Try.pinned (OpenSpec.upto indexAddSpec)

/-- 'drosslaw35.IndexDiffering', WHERE WHAT IT READS IS OF BULK AT MOST 1048576: true; the input reads as it did. -/
def indexDifferingUptoRow : OpenClaim := { program := "ytgjoneiojhakgaa", sum := "6324cb4984a8ec7f3b5dd1d49980b78d7b986a1bef8203cb0565bbe2c93c8b02", func := "dross/drosslaw35.IndexDiffering", spec := "indexDiffering", inPlace := ["internal/abi.NoEscape", "slices.overlaps[int64]"], unfollowed := true, recurses := true, apart := false, narrowed := true }
def IndexDifferingUptoSaid : Prop := indexDifferingUptoRow.holds Try.pinned (OpenSpec.upto indexDifferingSpec)

/-- 'drosslaw35.IndexMemory', WHERE WHAT IT READS IS OF BULK AT MOST 1048576: true; the input reads as it did. -/
def indexMemoryUptoRow : OpenClaim := { program := "ytgjoneiojhakgaa", sum := "6324cb4984a8ec7f3b5dd1d49980b78d7b986a1bef8203cb0565bbe2c93c8b02", func := "dross/drosslaw35.IndexMemory", spec := "indexMemory", inPlace := ["internal/abi.NoEscape", "slices.overlaps[int64]"], unfollowed := true, recurses := true, apart := false, narrowed := true }
def IndexMemoryUptoSaid : Prop := indexMemoryUptoRow.holds Try.pinned (OpenSpec.upto indexMemorySpec)

/-- 'drosslaw35.IndexGroup', WHERE WHAT IT READS IS OF BULK AT MOST 1048576: true; the input reads as it did. -/
def indexGroupUptoRow : OpenClaim := { program := "ytgjoneiojhakgaa", sum := "6324cb4984a8ec7f3b5dd1d49980b78d7b986a1bef8203cb0565bbe2c93c8b02", func := "dross/drosslaw35.IndexGroup", spec := "indexGroup", inPlace := ["internal/abi.NoEscape", "slices.overlaps[int64]"], unfollowed := true, recurses := true, apart := false, narrowed := true }
def IndexGroupUptoSaid : Prop := indexGroupUptoRow.holds Try.pinned (OpenSpec.upto indexGroupSpec)

end Rows
end Go.Proofs.Ytgjoneiojhakgaa
