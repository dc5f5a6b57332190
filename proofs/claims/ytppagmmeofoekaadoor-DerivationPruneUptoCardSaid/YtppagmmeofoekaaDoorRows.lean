/-
  NARROWER THAN 'FOR EVERY INPUT', by the rows' own cells (each row's printed sentence says how): DerivationCheck: laid · DerivationErrors: laid · DerivationSound: laid · DerivationProve: laid · DerivationPrune: laid · DerivationUsed: laid.
  DERIVED. THE GIVEN ROWS OF THIS SEAT. 6 by the template 'for every input the law returns true; each argument reads behind the call as it read before'; 0 by the template 'total and deterministic' (their statements: YtppagmmeofoekaaDoorTotals.lean).
  GIVEN WITH THE SEED: the statements are not yours to turn. If you find one false, say at which input.
  Laid BY PROGRAM, IN A SANDBOX (cutbox-rows.mjs): the forced cells as the released guide's own fill.sh prints them over the translation fc943e56e18a718f… (all of the seat's roots in one cut). By AI agents, Wed Nov 11 2026. No macro, syntax, notation, axiom, sorry.
-/
import Derived.Test.YtppagmmeofoekaaDoorChecked
import GoSem.Claim
import GoSem.ClaimJoined
import GoSem.ClaimMapViews
import Derived.JoinedTies
import Derived.KernelRfl
namespace Go.Proofs.YtppagmmeofoekaaDoor
/- THE CELL 'sum', in the pinned program and in every row, IS THE sha256 OF THE DUMP (.gsa) THAT YtppagmmeofoekaaDoorProg.lean LOADS. Nothing in Lean hashes anything: it is a label: what it is worth is what the hold of that sum in a sandbox is worth. -/
noncomputable def Tryd.pinned : Pinned := { name := "ytppagmmeofoekaadoor", sum := "fc943e56e18a718f32b6a2a7af7d2c953b49e6f3f8f0baa498d7460091f4812b", checked := Tryd.checked }
namespace Rows
def none {H : Type} : Left H := { results := [], args := [] }

/- WHAT THE LISTED PACKAGE-LEVEL VARIABLES READ AS WHEN THE CALL BEGINS. Each datum BY PROGRAM (the guide's laid-datum.mjs) off the statement by which the dump's own 'gosem.cut.vars' lays the variable. In a bare row this is a premise. The card (YtppagmmeofoekaaDoorCards.lean) ties it to the program's text. -/
def laid_math_bits_deBruijn32tab {H : Type} : DataW H := .agg [.lit (.int .u8 0), .lit (.int .u8 1), .lit (.int .u8 28), .lit (.int .u8 2), .lit (.int .u8 29), .lit (.int .u8 14), .lit (.int .u8 24), .lit (.int .u8 3), .lit (.int .u8 30), .lit (.int .u8 22), .lit (.int .u8 20), .lit (.int .u8 15), .lit (.int .u8 25), .lit (.int .u8 17), .lit (.int .u8 4), .lit (.int .u8 8), .lit (.int .u8 31), .lit (.int .u8 27), .lit (.int .u8 13), .lit (.int .u8 23), .lit (.int .u8 21), .lit (.int .u8 19), .lit (.int .u8 16), .lit (.int .u8 7), .lit (.int .u8 26), .lit (.int .u8 12), .lit (.int .u8 18), .lit (.int .u8 6), .lit (.int .u8 11), .lit (.int .u8 5), .lit (.int .u8 10), .lit (.int .u8 9)]
def laid_math_bits_deBruijn64tab {H : Type} : DataW H := .agg [.lit (.int .u8 0), .lit (.int .u8 1), .lit (.int .u8 56), .lit (.int .u8 2), .lit (.int .u8 57), .lit (.int .u8 49), .lit (.int .u8 28), .lit (.int .u8 3), .lit (.int .u8 61), .lit (.int .u8 58), .lit (.int .u8 42), .lit (.int .u8 50), .lit (.int .u8 38), .lit (.int .u8 29), .lit (.int .u8 17), .lit (.int .u8 4), .lit (.int .u8 62), .lit (.int .u8 47), .lit (.int .u8 59), .lit (.int .u8 36), .lit (.int .u8 45), .lit (.int .u8 43), .lit (.int .u8 51), .lit (.int .u8 22), .lit (.int .u8 53), .lit (.int .u8 39), .lit (.int .u8 33), .lit (.int .u8 30), .lit (.int .u8 24), .lit (.int .u8 18), .lit (.int .u8 12), .lit (.int .u8 5), .lit (.int .u8 63), .lit (.int .u8 55), .lit (.int .u8 48), .lit (.int .u8 27), .lit (.int .u8 60), .lit (.int .u8 41), .lit (.int .u8 37), .lit (.int .u8 16), .lit (.int .u8 46), .lit (.int .u8 35), .lit (.int .u8 44), .lit (.int .u8 21), .lit (.int .u8 52), .lit (.int .u8 32), .lit (.int .u8 23), .lit (.int .u8 11), .lit (.int .u8 54), .lit (.int .u8 26), .lit (.int .u8 40), .lit (.int .u8 15), .lit (.int .u8 34), .lit (.int .u8 20), .lit (.int .u8 31), .lit (.int .u8 10), .lit (.int .u8 25), .lit (.int .u8 14), .lit (.int .u8 19), .lit (.int .u8 9), .lit (.int .u8 13), .lit (.int .u8 8), .lit (.int .u8 7), .lit (.int .u8 6)]
def laid_internal_strconv_uint64pow10 {H : Type} : DataW H := .agg [.lit (.int .u64 1), .lit (.int .u64 10), .lit (.int .u64 100), .lit (.int .u64 1000), .lit (.int .u64 10000), .lit (.int .u64 100000), .lit (.int .u64 1000000), .lit (.int .u64 10000000), .lit (.int .u64 100000000), .lit (.int .u64 1000000000), .lit (.int .u64 10000000000), .lit (.int .u64 100000000000), .lit (.int .u64 1000000000000), .lit (.int .u64 10000000000000), .lit (.int .u64 100000000000000), .lit (.int .u64 1000000000000000), .lit (.int .u64 10000000000000000), .lit (.int .u64 100000000000000000), .lit (.int .u64 1000000000000000000), .lit (.int .u64 10000000000000000000)]

/-- 'drosslaw12.DerivationCheck': WHATEVER THE INPUT: true; the input reads as it did. -/
def derivationCheckSpec : ChangeSpec := { name := "derivationCheck", fn := fun _ => fun
  | [d1, d2, d3] => { results := [.lit (.bool true)], args := [d1, d2, d3] }
  | _ => none }
def derivationCheckRow : OpenClaim := { program := "ytppagmmeofoekaadoor", sum := "fc943e56e18a718f32b6a2a7af7d2c953b49e6f3f8f0baa498d7460091f4812b", func := "dross/drosslaw12.DerivationCheck", spec := "derivationCheck", inPlace := ["internal/abi.NoEscape", "internal/bytealg.MakeNoZero"], unfollowed := true, recurses := true, named := ["internal/strconv.uint64pow10", "math/bits.deBruijn32tab", "math/bits.deBruijn64tab"], apart := false, laid := [("math/bits.deBruijn32tab", laid_math_bits_deBruijn32tab), ("math/bits.deBruijn64tab", laid_math_bits_deBruijn64tab), ("internal/strconv.uint64pow10", laid_internal_strconv_uint64pow10)] }
def DerivationCheckSaid : Prop := derivationCheckRow.holds Tryd.pinned (OpenSpec.ofChange derivationCheckSpec)

/-- ITS FALSE NEIGHBOUR: 'it returns false'. Refute it at one input. -/
def derivationCheckWrong : ChangeSpec := { name := "derivationCheck", fn := fun _ => fun
  | [d1, d2, d3] => { results := [.lit (.bool false)], args := [d1, d2, d3] }
  | _ => none }
def DerivationCheckWrongFalsely : Prop := derivationCheckRow.holds Tryd.pinned (OpenSpec.ofChange derivationCheckWrong)

/-- 'drosslaw12.DerivationErrors': WHATEVER THE INPUT: true; the input reads as it did. -/
def derivationErrorsSpec : ChangeSpec := { name := "derivationErrors", fn := fun _ => fun
  | [d1, d2, d3] => { results := [.lit (.bool true)], args := [d1, d2, d3] }
  | _ => none }
def derivationErrorsRow : OpenClaim := { program := "ytppagmmeofoekaadoor", sum := "fc943e56e18a718f32b6a2a7af7d2c953b49e6f3f8f0baa498d7460091f4812b", func := "dross/drosslaw12.DerivationErrors", spec := "derivationErrors", inPlace := ["internal/abi.NoEscape", "internal/bytealg.MakeNoZero"], unfollowed := true, recurses := true, named := ["internal/strconv.uint64pow10", "math/bits.deBruijn32tab", "math/bits.deBruijn64tab"], apart := false, laid := [("math/bits.deBruijn32tab", laid_math_bits_deBruijn32tab), ("math/bits.deBruijn64tab", laid_math_bits_deBruijn64tab), ("internal/strconv.uint64pow10", laid_internal_strconv_uint64pow10)] }
def DerivationErrorsSaid : Prop := derivationErrorsRow.holds Tryd.pinned (OpenSpec.ofChange derivationErrorsSpec)

/-- ITS FALSE NEIGHBOUR: 'it returns false'. Refute it at one input. -/
def derivationErrorsWrong : ChangeSpec := { name := "derivationErrors", fn := fun _ => fun
  | [d1, d2, d3] => { results := [.lit (.bool false)], args := [d1, d2, d3] }
  | _ => none }
def DerivationErrorsWrongFalsely : Prop := derivationErrorsRow.holds Tryd.pinned (OpenSpec.ofChange derivationErrorsWrong)

/-- 'drosslaw12.DerivationSound': WHATEVER THE INPUT: true; the input reads as it did. -/
def derivationSoundSpec : ChangeSpec := { name := "derivationSound", fn := fun _ => fun
  | [d1, d2] => { results := [.lit (.bool true)], args := [d1, d2] }
  | _ => none }
def derivationSoundRow : OpenClaim := { program := "ytppagmmeofoekaadoor", sum := "fc943e56e18a718f32b6a2a7af7d2c953b49e6f3f8f0baa498d7460091f4812b", func := "dross/drosslaw12.DerivationSound", spec := "derivationSound", inPlace := ["internal/abi.NoEscape", "internal/bytealg.MakeNoZero"], unfollowed := true, recurses := true, named := ["internal/strconv.uint64pow10", "math/bits.deBruijn32tab", "math/bits.deBruijn64tab"], apart := false, laid := [("math/bits.deBruijn32tab", laid_math_bits_deBruijn32tab), ("math/bits.deBruijn64tab", laid_math_bits_deBruijn64tab), ("internal/strconv.uint64pow10", laid_internal_strconv_uint64pow10)] }
def DerivationSoundSaid : Prop := derivationSoundRow.holds Tryd.pinned (OpenSpec.ofChange derivationSoundSpec)

/-- ITS FALSE NEIGHBOUR: 'it returns false'. Refute it at one input. -/
def derivationSoundWrong : ChangeSpec := { name := "derivationSound", fn := fun _ => fun
  | [d1, d2] => { results := [.lit (.bool false)], args := [d1, d2] }
  | _ => none }
def DerivationSoundWrongFalsely : Prop := derivationSoundRow.holds Tryd.pinned (OpenSpec.ofChange derivationSoundWrong)

/-- 'drosslaw12.DerivationProve': WHATEVER THE INPUT: true; the input reads as it did. -/
def derivationProveSpec : ChangeSpec := { name := "derivationProve", fn := fun _ => fun
  | [d1, d2, d3] => { results := [.lit (.bool true)], args := [d1, d2, d3] }
  | _ => none }
def derivationProveRow : OpenClaim := { program := "ytppagmmeofoekaadoor", sum := "fc943e56e18a718f32b6a2a7af7d2c953b49e6f3f8f0baa498d7460091f4812b", func := "dross/drosslaw12.DerivationProve", spec := "derivationProve", inPlace := ["internal/abi.NoEscape", "internal/bytealg.MakeNoZero"], unfollowed := true, recurses := true, named := ["internal/strconv.uint64pow10", "math/bits.deBruijn32tab", "math/bits.deBruijn64tab"], apart := false, laid := [("math/bits.deBruijn32tab", laid_math_bits_deBruijn32tab), ("math/bits.deBruijn64tab", laid_math_bits_deBruijn64tab), ("internal/strconv.uint64pow10", laid_internal_strconv_uint64pow10)] }
def DerivationProveSaid : Prop := derivationProveRow.holds Tryd.pinned (OpenSpec.ofChange derivationProveSpec)

/-- ITS FALSE NEIGHBOUR: 'it returns false'. Refute it at one input. -/
def derivationProveWrong : ChangeSpec := { name := "derivationProve", fn := fun _ => fun
  | [d1, d2, d3] => { results := [.lit (.bool false)], args := [d1, d2, d3] }
  | _ => none }
def DerivationProveWrongFalsely : Prop := derivationProveRow.holds Tryd.pinned (OpenSpec.ofChange derivationProveWrong)

/-- 'drosslaw12.DerivationPrune': WHATEVER THE INPUT: true; the input reads as it did. -/
def derivationPruneSpec : ChangeSpec := { name := "derivationPrune", fn := fun _ => fun
  | [d1, d2] => { results := [.lit (.bool true)], args := [d1, d2] }
  | _ => none }
def derivationPruneRow : OpenClaim := { program := "ytppagmmeofoekaadoor", sum := "fc943e56e18a718f32b6a2a7af7d2c953b49e6f3f8f0baa498d7460091f4812b", func := "dross/drosslaw12.DerivationPrune", spec := "derivationPrune", inPlace := ["internal/abi.NoEscape", "internal/bytealg.MakeNoZero"], unfollowed := true, recurses := true, named := ["internal/strconv.uint64pow10", "math/bits.deBruijn32tab", "math/bits.deBruijn64tab"], apart := false, laid := [("math/bits.deBruijn32tab", laid_math_bits_deBruijn32tab), ("math/bits.deBruijn64tab", laid_math_bits_deBruijn64tab), ("internal/strconv.uint64pow10", laid_internal_strconv_uint64pow10)] }
def DerivationPruneSaid : Prop := derivationPruneRow.holds Tryd.pinned (OpenSpec.ofChange derivationPruneSpec)

/-- ITS FALSE NEIGHBOUR: 'it returns false'. Refute it at one input. -/
def derivationPruneWrong : ChangeSpec := { name := "derivationPrune", fn := fun _ => fun
  | [d1, d2] => { results := [.lit (.bool false)], args := [d1, d2] }
  | _ => none }
def DerivationPruneWrongFalsely : Prop := derivationPruneRow.holds Tryd.pinned (OpenSpec.ofChange derivationPruneWrong)

/-- 'drosslaw12.DerivationUsed': WHATEVER THE INPUT: true; the input reads as it did. -/
def derivationUsedSpec : ChangeSpec := { name := "derivationUsed", fn := fun _ => fun
  | [d1, d2] => { results := [.lit (.bool true)], args := [d1, d2] }
  | _ => none }
def derivationUsedRow : OpenClaim := { program := "ytppagmmeofoekaadoor", sum := "fc943e56e18a718f32b6a2a7af7d2c953b49e6f3f8f0baa498d7460091f4812b", func := "dross/drosslaw12.DerivationUsed", spec := "derivationUsed", inPlace := ["internal/abi.NoEscape", "internal/bytealg.MakeNoZero"], unfollowed := true, recurses := true, named := ["internal/strconv.uint64pow10", "math/bits.deBruijn32tab", "math/bits.deBruijn64tab"], apart := false, laid := [("math/bits.deBruijn32tab", laid_math_bits_deBruijn32tab), ("math/bits.deBruijn64tab", laid_math_bits_deBruijn64tab), ("internal/strconv.uint64pow10", laid_internal_strconv_uint64pow10)] }
def DerivationUsedSaid : Prop := derivationUsedRow.holds Tryd.pinned (OpenSpec.ofChange derivationUsedSpec)

/-- ITS FALSE NEIGHBOUR: 'it returns false'. Refute it at one input. -/
def derivationUsedWrong : ChangeSpec := { name := "derivationUsed", fn := fun _ => fun
  | [d1, d2] => { results := [.lit (.bool false)], args := [d1, d2] }
  | _ => none }
def DerivationUsedWrongFalsely : Prop := derivationUsedRow.holds Tryd.pinned (OpenSpec.ofChange derivationUsedWrong)

/- THE SECOND FORM. 'bulk': how many values and letters a reading holds, each counted each time it is reached (what is shared counts as often as it is met; a slice's spare places count too). A statement '..UptoSaid' is the law's where the arguments, and the package variables that the reading takes, are together of bulk at most 1048576: NARROWER than '..Said'. Prove '..Said' where nothing that the law and all that it calls make is longer than what came in: it says more and counts as full. Else prove '..UptoSaid'. A law counts once. -/
mutual
def uptoBulk {H : Type} : DataW H → Nat
  | .lit (.string bytes) => bytes.length + 1
  | .lit _ => 1
  | .nil => 1
  | .ptr d => uptoBulk d + 1
  | .slice elems spare => uptoBulkAll elems + uptoBulkAll spare + 1
  | .agg parts => uptoBulkAll parts + 1
  | .iface _ d => uptoBulk d + 1
  | .map entries => uptoBulkEntries entries + 1
  | .held _ => 1
def uptoBulkAll {H : Type} : List (DataW H) → Nat
  | [] => 0
  | d :: r => uptoBulk d + uptoBulkAll r
def uptoBulkEntries {H : Type} : List (Lit × DataW H) → Nat
  | [] => 0
  | x :: r => uptoBulkEntry x + uptoBulkEntries r
def uptoBulkEntry {H : Type} : Lit × DataW H → Nat
  | (.string bytes, d) => bytes.length + uptoBulk d + 1
  | (_, d) => uptoBulk d + 1
 end
def uptoSmall : (H : Type) → List (DataW H) → Bool := fun _ ds => decide (uptoBulkAll ds ≤ 1048576)
def OpenSpec.upto (s : _root_.Go.ChangeSpec) : _root_.Go.OpenSpec := { _root_.Go.OpenSpec.ofChange s with cond := some uptoSmall }

/-- 'drosslaw12.DerivationCheck', WHERE WHAT IT READS IS OF BULK AT MOST 1048576: true; the input reads as it did. -/
def derivationCheckUptoRow : OpenClaim := { program := "ytppagmmeofoekaadoor", sum := "fc943e56e18a718f32b6a2a7af7d2c953b49e6f3f8f0baa498d7460091f4812b", func := "dross/drosslaw12.DerivationCheck", spec := "derivationCheck", inPlace := ["internal/abi.NoEscape", "internal/bytealg.MakeNoZero"], unfollowed := true, recurses := true, named := ["internal/strconv.uint64pow10", "math/bits.deBruijn32tab", "math/bits.deBruijn64tab"], apart := false, laid := [("math/bits.deBruijn32tab", laid_math_bits_deBruijn32tab), ("math/bits.deBruijn64tab", laid_math_bits_deBruijn64tab), ("internal/strconv.uint64pow10", laid_internal_strconv_uint64pow10)], narrowed := true }
def DerivationCheckUptoSaid : Prop := derivationCheckUptoRow.holds Tryd.pinned (OpenSpec.upto derivationCheckSpec)

/-- 'drosslaw12.DerivationErrors', WHERE WHAT IT READS IS OF BULK AT MOST 1048576: true; the input reads as it did. -/
def derivationErrorsUptoRow : OpenClaim := { program := "ytppagmmeofoekaadoor", sum := "fc943e56e18a718f32b6a2a7af7d2c953b49e6f3f8f0baa498d7460091f4812b", func := "dross/drosslaw12.DerivationErrors", spec := "derivationErrors", inPlace := ["internal/abi.NoEscape", "internal/bytealg.MakeNoZero"], unfollowed := true, recurses := true, named := ["internal/strconv.uint64pow10", "math/bits.deBruijn32tab", "math/bits.deBruijn64tab"], apart := false, laid := [("math/bits.deBruijn32tab", laid_math_bits_deBruijn32tab), ("math/bits.deBruijn64tab", laid_math_bits_deBruijn64tab), ("internal/strconv.uint64pow10", laid_internal_strconv_uint64pow10)], narrowed := true }
def DerivationErrorsUptoSaid : Prop := derivationErrorsUptoRow.holds Tryd.pinned (OpenSpec.upto derivationErrorsSpec)

/-- 'drosslaw12.DerivationSound', WHERE WHAT IT READS IS OF BULK AT MOST 1048576: true; the input reads as it did. -/
def derivationSoundUptoRow : OpenClaim := { program := "ytppagmmeofoekaadoor", sum := "fc943e56e18a718f32b6a2a7af7d2c953b49e6f3f8f0baa498d7460091f4812b", func := "dross/drosslaw12.DerivationSound", spec := "derivationSound", inPlace := ["internal/abi.NoEscape", "internal/bytealg.MakeNoZero"], unfollowed := true, recurses := true, named := ["internal/strconv.uint64pow10", "math/bits.deBruijn32tab", "math/bits.deBruijn64tab"], apart := false, laid := [("math/bits.deBruijn32tab", laid_math_bits_deBruijn32tab), ("math/bits.deBruijn64tab", laid_math_bits_deBruijn64tab), ("internal/strconv.uint64pow10", laid_internal_strconv_uint64pow10)], narrowed := true }
def DerivationSoundUptoSaid : Prop := derivationSoundUptoRow.holds Tryd.pinned (OpenSpec.upto derivationSoundSpec)

/-- 'drosslaw12.DerivationProve', WHERE WHAT IT READS IS OF BULK AT MOST 1048576: true; the input reads as it did. -/
def derivationProveUptoRow : OpenClaim := { program := "ytppagmmeofoekaadoor", sum := "fc943e56e18a718f32b6a2a7af7d2c953b49e6f3f8f0baa498d7460091f4812b", func := "dross/drosslaw12.DerivationProve", spec := "derivationProve", inPlace := ["internal/abi.NoEscape", "internal/bytealg.MakeNoZero"], unfollowed := true, recurses := true, named := ["internal/strconv.uint64pow10", "math/bits.deBruijn32tab", "math/bits.deBruijn64tab"], apart := false, laid := [("math/bits.deBruijn32tab", laid_math_bits_deBruijn32tab), ("math/bits.deBruijn64tab", laid_math_bits_deBruijn64tab), ("internal/strconv.uint64pow10", laid_internal_strconv_uint64pow10)], narrowed := true }
def DerivationProveUptoSaid : Prop := derivationProveUptoRow.holds Tryd.pinned (OpenSpec.upto derivationProveSpec)

/-- 'drosslaw12.DerivationPrune', WHERE WHAT IT READS IS OF BULK AT MOST 1048576: true; the input reads as it did. -/
def derivationPruneUptoRow : OpenClaim := { program := "ytppagmmeofoekaadoor", sum := "fc943e56e18a718f32b6a2a7af7d2c953b49e6f3f8f0baa498d7460091f4812b", func := "dross/drosslaw12.DerivationPrune", spec := "derivationPrune", inPlace := ["internal/abi.NoEscape", "internal/bytealg.MakeNoZero"], unfollowed := true, recurses := true, named := ["internal/strconv.uint64pow10", "math/bits.deBruijn32tab", "math/bits.deBruijn64tab"], apart := false, laid := [("math/bits.deBruijn32tab", laid_math_bits_deBruijn32tab), ("math/bits.deBruijn64tab", laid_math_bits_deBruijn64tab), ("internal/strconv.uint64pow10", laid_internal_strconv_uint64pow10)], narrowed := true }
def DerivationPruneUptoSaid : Prop := derivationPruneUptoRow.holds Tryd.pinned (OpenSpec.upto derivationPruneSpec)

/-- 'drosslaw12.DerivationUsed', WHERE WHAT IT READS IS OF BULK AT MOST 1048576: true; the input reads as it did. -/
def derivationUsedUptoRow : OpenClaim := { program := "ytppagmmeofoekaadoor", sum := "fc943e56e18a718f32b6a2a7af7d2c953b49e6f3f8f0baa498d7460091f4812b", func := "dross/drosslaw12.DerivationUsed", spec := "derivationUsed", inPlace := ["internal/abi.NoEscape", "internal/bytealg.MakeNoZero"], unfollowed := true, recurses := true, named := ["internal/strconv.uint64pow10", "math/bits.deBruijn32tab", "math/bits.deBruijn64tab"], apart := false, laid := [("math/bits.deBruijn32tab", laid_math_bits_deBruijn32tab), ("math/bits.deBruijn64tab", laid_math_bits_deBruijn64tab), ("internal/strconv.uint64pow10", laid_internal_strconv_uint64pow10)], narrowed := true }
def DerivationUsedUptoSaid : Prop := derivationUsedUptoRow.holds Tryd.pinned (OpenSpec.upto derivationUsedSpec)

end Rows
end Go.Proofs.YtppagmmeofoekaaDoor
