/-
  No cell of these rows narrows 'for every input' (looked for: loops, veiled, ifaces, maps, wideKeys, modest, calm, conditions, laid).
  DERIVED. THE GIVEN ROWS OF THIS SEAT. 9 by the template 'for every input the law returns true; each argument reads behind the call as it read before'; 0 by the template 'total and deterministic' (their statements: YtgegamaadohibaaTotals.lean).
  GIVEN WITH THE SEED: the statements are not yours to turn. If you find one false, say at which input.
  Laid BY PROGRAM, IN A SANDBOX (cutbox-rows.mjs): the forced cells as the released guide's own fill.sh prints them over the translation a2721f68de9b013a… (all of the seat's roots in one cut). By AI agents, Wed Nov 11 2026. No macro, syntax, notation, axiom, sorry.
-/
import Derived.Test.YtgegamaadohibaaChecked
import GoSem.Claim
import GoSem.ClaimJoined
import GoSem.ClaimMapViews
import Derived.JoinedTies
import Derived.KernelRfl
namespace Go.Proofs.Ytgegamaadohibaa
/- THE CELL 'sum', in the pinned program and in every row, IS THE sha256 OF THE DUMP (.gsa) THAT YtgegamaadohibaaProg.lean LOADS. Nothing in Lean hashes anything: it is a label: what it is worth is what the hold of that sum in a sandbox is worth. -/
noncomputable def Try.pinned : Pinned := { name := "ytgegamaadohibaa", sum := "a2721f68de9b013a0146c0491177288f04b6ea19127fb120c8365c5f66c9e421", checked := Try.checked }
namespace Rows
def none {H : Type} : Left H := { results := [], args := [] }

/-- 'drosslaw39.HitsetValid': WHATEVER THE INPUT: true; the input reads as it did. -/
def hitsetValidSpec : ChangeSpec := { name := "hitsetValid", fn := fun _ => fun
  | [d] => { results := [.lit (.bool true)], args := [d] }
  | _ => none }
def hitsetValidRow : OpenClaim := { program := "ytgegamaadohibaa", sum := "a2721f68de9b013a0146c0491177288f04b6ea19127fb120c8365c5f66c9e421", func := "dross/drosslaw39.HitsetValid", spec := "hitsetValid", unfollowed := true, recurses := true, apart := false }
def HitsetValidSaid : Prop := hitsetValidRow.holds Try.pinned (OpenSpec.ofChange hitsetValidSpec)

/-- ITS FALSE NEIGHBOUR: 'it returns false'. Refute it at one input. -/
def hitsetValidWrong : ChangeSpec := { name := "hitsetValid", fn := fun _ => fun
  | [d] => { results := [.lit (.bool false)], args := [d] }
  | _ => none }
def HitsetValidWrongFalsely : Prop := hitsetValidRow.holds Try.pinned (OpenSpec.ofChange hitsetValidWrong)

/-- 'drosslaw39.HitsetGreedy': WHATEVER THE INPUT: true; the input reads as it did. -/
def hitsetGreedySpec : ChangeSpec := { name := "hitsetGreedy", fn := fun _ => fun
  | [d] => { results := [.lit (.bool true)], args := [d] }
  | _ => none }
def hitsetGreedyRow : OpenClaim := { program := "ytgegamaadohibaa", sum := "a2721f68de9b013a0146c0491177288f04b6ea19127fb120c8365c5f66c9e421", func := "dross/drosslaw39.HitsetGreedy", spec := "hitsetGreedy", unfollowed := true, recurses := true, apart := false }
def HitsetGreedySaid : Prop := hitsetGreedyRow.holds Try.pinned (OpenSpec.ofChange hitsetGreedySpec)

/-- ITS FALSE NEIGHBOUR: 'it returns false'. Refute it at one input. -/
def hitsetGreedyWrong : ChangeSpec := { name := "hitsetGreedy", fn := fun _ => fun
  | [d] => { results := [.lit (.bool false)], args := [d] }
  | _ => none }
def HitsetGreedyWrongFalsely : Prop := hitsetGreedyRow.holds Try.pinned (OpenSpec.ofChange hitsetGreedyWrong)

/-- 'drosslaw39.HitsetMinimum': WHATEVER THE INPUT: true; the input reads as it did. -/
def hitsetMinimumSpec : ChangeSpec := { name := "hitsetMinimum", fn := fun _ => fun
  | [d1, d2] => { results := [.lit (.bool true)], args := [d1, d2] }
  | _ => none }
def hitsetMinimumRow : OpenClaim := { program := "ytgegamaadohibaa", sum := "a2721f68de9b013a0146c0491177288f04b6ea19127fb120c8365c5f66c9e421", func := "dross/drosslaw39.HitsetMinimum", spec := "hitsetMinimum", unfollowed := true, recurses := true, apart := false }
def HitsetMinimumSaid : Prop := hitsetMinimumRow.holds Try.pinned (OpenSpec.ofChange hitsetMinimumSpec)

/-- ITS FALSE NEIGHBOUR: 'it returns false'. Refute it at one input. -/
def hitsetMinimumWrong : ChangeSpec := { name := "hitsetMinimum", fn := fun _ => fun
  | [d1, d2] => { results := [.lit (.bool false)], args := [d1, d2] }
  | _ => none }
def HitsetMinimumWrongFalsely : Prop := hitsetMinimumRow.holds Try.pinned (OpenSpec.ofChange hitsetMinimumWrong)

/-- 'drosslaw39.HitsetSound': WHATEVER THE INPUT: true; the input reads as it did. -/
def hitsetSoundSpec : ChangeSpec := { name := "hitsetSound", fn := fun _ => fun
  | [d1, d2, d3] => { results := [.lit (.bool true)], args := [d1, d2, d3] }
  | _ => none }
def hitsetSoundRow : OpenClaim := { program := "ytgegamaadohibaa", sum := "a2721f68de9b013a0146c0491177288f04b6ea19127fb120c8365c5f66c9e421", func := "dross/drosslaw39.HitsetSound", spec := "hitsetSound", unfollowed := true, recurses := true, apart := false }
def HitsetSoundSaid : Prop := hitsetSoundRow.holds Try.pinned (OpenSpec.ofChange hitsetSoundSpec)

/-- ITS FALSE NEIGHBOUR: 'it returns false'. Refute it at one input. -/
def hitsetSoundWrong : ChangeSpec := { name := "hitsetSound", fn := fun _ => fun
  | [d1, d2, d3] => { results := [.lit (.bool false)], args := [d1, d2, d3] }
  | _ => none }
def HitsetSoundWrongFalsely : Prop := hitsetSoundRow.holds Try.pinned (OpenSpec.ofChange hitsetSoundWrong)

/-- 'drosslaw39.HitsetHits': WHATEVER THE INPUT: true; the input reads as it did. -/
def hitsetHitsSpec : ChangeSpec := { name := "hitsetHits", fn := fun _ => fun
  | [d1, d2] => { results := [.lit (.bool true)], args := [d1, d2] }
  | _ => none }
def hitsetHitsRow : OpenClaim := { program := "ytgegamaadohibaa", sum := "a2721f68de9b013a0146c0491177288f04b6ea19127fb120c8365c5f66c9e421", func := "dross/drosslaw39.HitsetHits", spec := "hitsetHits", unfollowed := true, recurses := true, apart := false }
def HitsetHitsSaid : Prop := hitsetHitsRow.holds Try.pinned (OpenSpec.ofChange hitsetHitsSpec)

/-- ITS FALSE NEIGHBOUR: 'it returns false'. Refute it at one input. -/
def hitsetHitsWrong : ChangeSpec := { name := "hitsetHits", fn := fun _ => fun
  | [d1, d2] => { results := [.lit (.bool false)], args := [d1, d2] }
  | _ => none }
def HitsetHitsWrongFalsely : Prop := hitsetHitsRow.holds Try.pinned (OpenSpec.ofChange hitsetHitsWrong)

/-- 'drosslaw39.HitsetPacking': WHATEVER THE INPUT: true; the input reads as it did. -/
def hitsetPackingSpec : ChangeSpec := { name := "hitsetPacking", fn := fun _ => fun
  | [d] => { results := [.lit (.bool true)], args := [d] }
  | _ => none }
def hitsetPackingRow : OpenClaim := { program := "ytgegamaadohibaa", sum := "a2721f68de9b013a0146c0491177288f04b6ea19127fb120c8365c5f66c9e421", func := "dross/drosslaw39.HitsetPacking", spec := "hitsetPacking", unfollowed := true, recurses := true, apart := false }
def HitsetPackingSaid : Prop := hitsetPackingRow.holds Try.pinned (OpenSpec.ofChange hitsetPackingSpec)

/-- ITS FALSE NEIGHBOUR: 'it returns false'. Refute it at one input. -/
def hitsetPackingWrong : ChangeSpec := { name := "hitsetPacking", fn := fun _ => fun
  | [d] => { results := [.lit (.bool false)], args := [d] }
  | _ => none }
def HitsetPackingWrongFalsely : Prop := hitsetPackingRow.holds Try.pinned (OpenSpec.ofChange hitsetPackingWrong)

/-- 'drosslaw39.HitsetProve': WHATEVER THE INPUT: true; the input reads as it did. -/
def hitsetProveSpec : ChangeSpec := { name := "hitsetProve", fn := fun _ => fun
  | [d1, d2, d3] => { results := [.lit (.bool true)], args := [d1, d2, d3] }
  | _ => none }
def hitsetProveRow : OpenClaim := { program := "ytgegamaadohibaa", sum := "a2721f68de9b013a0146c0491177288f04b6ea19127fb120c8365c5f66c9e421", func := "dross/drosslaw39.HitsetProve", spec := "hitsetProve", unfollowed := true, recurses := true, apart := false }
def HitsetProveSaid : Prop := hitsetProveRow.holds Try.pinned (OpenSpec.ofChange hitsetProveSpec)

/-- ITS FALSE NEIGHBOUR: 'it returns false'. Refute it at one input. -/
def hitsetProveWrong : ChangeSpec := { name := "hitsetProve", fn := fun _ => fun
  | [d1, d2, d3] => { results := [.lit (.bool false)], args := [d1, d2, d3] }
  | _ => none }
def HitsetProveWrongFalsely : Prop := hitsetProveRow.holds Try.pinned (OpenSpec.ofChange hitsetProveWrong)

/-- 'drosslaw39.HitsetCheck': WHATEVER THE INPUT: true; the input reads as it did. -/
def hitsetCheckSpec : ChangeSpec := { name := "hitsetCheck", fn := fun _ => fun
  | [d1, d2, d3] => { results := [.lit (.bool true)], args := [d1, d2, d3] }
  | _ => none }
def hitsetCheckRow : OpenClaim := { program := "ytgegamaadohibaa", sum := "a2721f68de9b013a0146c0491177288f04b6ea19127fb120c8365c5f66c9e421", func := "dross/drosslaw39.HitsetCheck", spec := "hitsetCheck", unfollowed := true, recurses := true, apart := false }
def HitsetCheckSaid : Prop := hitsetCheckRow.holds Try.pinned (OpenSpec.ofChange hitsetCheckSpec)

/-- ITS FALSE NEIGHBOUR: 'it returns false'. Refute it at one input. -/
def hitsetCheckWrong : ChangeSpec := { name := "hitsetCheck", fn := fun _ => fun
  | [d1, d2, d3] => { results := [.lit (.bool false)], args := [d1, d2, d3] }
  | _ => none }
def HitsetCheckWrongFalsely : Prop := hitsetCheckRow.holds Try.pinned (OpenSpec.ofChange hitsetCheckWrong)

/-- 'drosslaw39.HitsetErrors': WHATEVER THE INPUT: true; the input reads as it did. -/
def hitsetErrorsSpec : ChangeSpec := { name := "hitsetErrors", fn := fun _ => fun
  | [d1, d2] => { results := [.lit (.bool true)], args := [d1, d2] }
  | _ => none }
def hitsetErrorsRow : OpenClaim := { program := "ytgegamaadohibaa", sum := "a2721f68de9b013a0146c0491177288f04b6ea19127fb120c8365c5f66c9e421", func := "dross/drosslaw39.HitsetErrors", spec := "hitsetErrors", unfollowed := true, recurses := true, apart := false }
def HitsetErrorsSaid : Prop := hitsetErrorsRow.holds Try.pinned (OpenSpec.ofChange hitsetErrorsSpec)

/-- ITS FALSE NEIGHBOUR: 'it returns false'. Refute it at one input. -/
def hitsetErrorsWrong : ChangeSpec := { name := "hitsetErrors", fn := fun _ => fun
  | [d1, d2] => { results := [.lit (.bool false)], args := [d1, d2] }
  | _ => none }
def HitsetErrorsWrongFalsely : Prop := hitsetErrorsRow.holds Try.pinned (OpenSpec.ofChange hitsetErrorsWrong)

/- THE SECOND FORM. 'bulk': how many values and letters a reading holds, each counted each time it is reached (what is shared counts as often as it is met; a slice's spare places count too). A statement '..UptoSaid' is the law's where the arguments, and the package variables that the reading takes, are together of bulk at most 1048576: NARROWER than '..Said'. Prove '..Said' where nothing that the law and all that it calls make is longer than what came in: it says more and counts as full. Else prove '..UptoSaid'. A law counts once. -/
mutual
def uptoBulk {H : Type} : DataW H → Nat
  | .lit (.string bytes) => bytes.length + 1
  | .lit _ => 1
  | .nil => 1
  | .ptr d => uptoBulk d + 1
  | .slice elems spare => uptoBulkAll elems + uptoBulkAll spare + 1
  | .agg parts => uptoBulkAll parts + 1
  | .iface _ d => uptoBulk d + 1
  | .map entries => uptoBulkEntries entries + 1
  | .held _ => 1
def uptoBulkAll {H : Type} : List (DataW H) → Nat
  | [] => 0
  | d :: r => uptoBulk d + uptoBulkAll r
def uptoBulkEntries {H : Type} : List (Lit × DataW H) → Nat
  | [] => 0
  | x :: r => uptoBulkEntry x + uptoBulkEntries r
def uptoBulkEntry {H : Type} : Lit × DataW H → Nat
  | (.string bytes, d) => bytes.length + uptoBulk d + 1
  | (_, d) => uptoBulk d + 1
 end
def uptoSmall : (H : Type) → List (DataW H) → Bool := fun _ ds => decide (uptoBulkAll ds ≤ 1048576)
def OpenSpec.upto (s : _root_.Go.ChangeSpec) : _root_.Go.OpenSpec := { _root_.Go.OpenSpec.ofChange s with cond := some uptoSmall }

/-- 'drosslaw39.HitsetValid', WHERE WHAT IT READS IS OF BULK AT MOST 1048576: true; the input reads as it did. -/
def hitsetValidUptoRow : OpenClaim := { program := "ytgegamaadohibaa", sum := "a2721f68de9b013a0146c0491177288f04b6ea19127fb120c8365c5f66c9e421", func := "dross/drosslaw39.HitsetValid", spec := "hitsetValid", unfollowed := true, recurses := true, apart := false, narrowed := true }
def HitsetValidUptoSaid : Prop := hitsetValidUptoRow.holds Try.pinned (OpenSpec.upto hitsetValidSpec)

/-- 'drosslaw39.HitsetGreedy', WHERE WHAT IT READS IS OF BULK AT MOST 1048576: true; the input reads as it did. -/
def hitsetGreedyUptoRow : OpenClaim := { program := "ytgegamaadohibaa", sum := "a2721f68de9b013a0146c0491177288f04b6ea19127fb120c8365c5f66c9e421", func := "dross/drosslaw39.HitsetGreedy", spec := "hitsetGreedy", unfollowed := true, recurses := true, apart := false, narrowed := true }
def HitsetGreedyUptoSaid : Prop := hitsetGreedyUptoRow.holds Try.pinned (OpenSpec.upto hitsetGreedySpec)

/-- 'drosslaw39.HitsetMinimum', WHERE WHAT IT READS IS OF BULK AT MOST 1048576: true; the input reads as it did. -/
def hitsetMinimumUptoRow : OpenClaim := { program := "ytgegamaadohibaa", sum := "a2721f68de9b013a0146c0491177288f04b6ea19127fb120c8365c5f66c9e421", func := "dross/drosslaw39.HitsetMinimum", spec := "hitsetMinimum", unfollowed := true, recurses := true, apart := false, narrowed := true }
def HitsetMinimumUptoSaid : Prop := hitsetMinimumUptoRow.holds Try.pinned (OpenSpec.upto hitsetMinimumSpec)

/-- 'drosslaw39.HitsetSound', WHERE WHAT IT READS IS OF BULK AT MOST 1048576: true; the input reads as it did. -/
def hitsetSoundUptoRow : OpenClaim := { program := "ytgegamaadohibaa", sum := "a2721f68de9b013a0146c0491177288f04b6ea19127fb120c8365c5f66c9e421", func := "dross/drosslaw39.HitsetSound", spec := "hitsetSound", unfollowed := true, recurses := true, apart := false, narrowed := true }
def HitsetSoundUptoSaid : Prop := hitsetSoundUptoRow.holds Try.pinned (OpenSpec.upto hitsetSoundSpec)

/-- 'drosslaw39.HitsetHits', WHERE WHAT IT READS IS OF BULK AT MOST 1048576: true; the input reads as it did. -/
def hitsetHitsUptoRow : OpenClaim := { program := "ytgegamaadohibaa", sum := "a2721f68de9b013a0146c0491177288f04b6ea19127fb120c8365c5f66c9e421", func := "dross/drosslaw39.HitsetHits", spec := "hitsetHits", unfollowed := true, recurses := true, apart := false, narrowed := true }
def HitsetHitsUptoSaid : Prop := hitsetHitsUptoRow.holds Try.pinned (OpenSpec.upto hitsetHitsSpec)

/-- 'drosslaw39.HitsetPacking', WHERE WHAT IT READS IS OF BULK AT MOST 1048576: true; the input reads as it did. -/
def hitsetPackingUptoRow : OpenClaim := { program := "ytgegamaadohibaa", sum := "a2721f68de9b013a0146c0491177288f04b6ea19127fb120c8365c5f66c9e421", func := "dross/drosslaw39.HitsetPacking", spec := "hitsetPacking", unfollowed := true, recurses := true, apart := false, narrowed := true }
def HitsetPackingUptoSaid : Prop := hitsetPackingUptoRow.holds Try.pinned (OpenSpec.upto hitsetPackingSpec)

/-- 'drosslaw39.HitsetProve', WHERE WHAT IT READS IS OF BULK AT MOST 1048576: true; the input reads as it did. -/
def hitsetProveUptoRow : OpenClaim := { program := "ytgegamaadohibaa", sum := "a2721f68de9b013a0146c0491177288f04b6ea19127fb120c8365c5f66c9e421", func := "dross/drosslaw39.HitsetProve", spec := "hitsetProve", unfollowed := true, recurses := true, apart := false, narrowed := true }
def HitsetProveUptoSaid : Prop := hitsetProveUptoRow.holds Try.pinned (OpenSpec.upto hitsetProveSpec)

/-- 'drosslaw39.HitsetCheck', WHERE WHAT IT READS IS OF BULK AT MOST 1048576: true; the input reads as it did. -/
def hitsetCheckUptoRow : OpenClaim := { program := "ytgegamaadohibaa", sum := "a2721f68de9b013a0146c0491177288f04b6ea19127fb120c8365c5f66c9e421", func := "dross/drosslaw39.HitsetCheck", spec := "hitsetCheck", unfollowed := true, recurses := true, apart := false, narrowed := true }
def HitsetCheckUptoSaid : Prop := hitsetCheckUptoRow.holds Try.pinned (OpenSpec.upto hitsetCheckSpec)

/-- 'drosslaw39.HitsetErrors', WHERE WHAT IT READS IS OF BULK AT MOST 1048576: true; the input reads as it did. -/
def hitsetErrorsUptoRow : OpenClaim := { program := "ytgegamaadohibaa", sum := "a2721f68de9b013a0146c0491177288f04b6ea19127fb120c8365c5f66c9e421", func := "dross/drosslaw39.HitsetErrors", spec := "hitsetErrors", unfollowed := true, recurses := true, apart := false, narrowed := true }
def HitsetErrorsUptoSaid : Prop := hitsetErrorsUptoRow.holds Try.pinned (OpenSpec.upto hitsetErrorsSpec)

end Rows
end Go.Proofs.Ytgegamaadohibaa
