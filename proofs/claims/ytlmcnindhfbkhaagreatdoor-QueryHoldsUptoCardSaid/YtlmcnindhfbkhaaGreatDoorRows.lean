/-
  NARROWER THAN 'FOR EVERY INPUT', by the rows' own cells (each row's printed sentence says how): QueryValid: laid · QueryAnswers: laid · QueryHomomorphism: laid · QueryContained: laid · QueryMinimal: laid · QueryReduced: laid · QueryFormat: laid · QueryMonotone: laid · QueryHolds: laid · QueryErrors: laid.
  DERIVED. THE GIVEN ROWS OF THIS SEAT. 10 by the template 'for every input the law returns true; each argument reads behind the call as it read before'; 0 by the template 'total and deterministic' (their statements: YtlmcnindhfbkhaaGreatDoorTotals.lean).
  GIVEN WITH THE SEED: the statements are not yours to turn. If you find one false, say at which input.
  Laid BY PROGRAM, IN A SANDBOX (cutbox-rows.mjs): the forced cells as the released guide's own fill.sh prints them over the translation 882eba9d5bfcc9e1… (all of the seat's roots in one cut). By AI agents, Wed Nov 11 2026. No macro, syntax, notation, axiom, sorry.
-/
import Derived.Test.YtlmcnindhfbkhaaGreatDoorChecked
import GoSem.Claim
import GoSem.ClaimJoined
import GoSem.ClaimMapViews
import Derived.JoinedTies
import Derived.KernelRfl
namespace Go.Proofs.YtlmcnindhfbkhaaGreatDoor
/- THE CELL 'sum', in the pinned program and in every row, IS THE sha256 OF THE DUMP (.gsa) THAT YtlmcnindhfbkhaaGreatDoorProg.lean LOADS. Nothing in Lean hashes anything: it is a label: what it is worth is what the hold of that sum in a sandbox is worth. -/
noncomputable def Tryz.pinned : Pinned := { name := "ytlmcnindhfbkhaagreatdoor", sum := "882eba9d5bfcc9e195c053eb09ea19f5361507ccd6ab18f2aa7cdc069fc6a8d0", checked := Tryz.checked }
namespace Rows
def none {H : Type} : Left H := { results := [], args := [] }

/- WHAT THE LISTED PACKAGE-LEVEL VARIABLES READ AS WHEN THE CALL BEGINS. Each datum BY PROGRAM (the guide's laid-datum.mjs) off the statement by which the dump's own 'gosem.cut.vars' lays the variable. In a bare row this is a premise. The card (YtlmcnindhfbkhaaGreatDoorCards.lean) ties it to the program's text. -/
def laid_math_bits_deBruijn32tab {H : Type} : DataW H := .agg [.lit (.int .u8 0), .lit (.int .u8 1), .lit (.int .u8 28), .lit (.int .u8 2), .lit (.int .u8 29), .lit (.int .u8 14), .lit (.int .u8 24), .lit (.int .u8 3), .lit (.int .u8 30), .lit (.int .u8 22), .lit (.int .u8 20), .lit (.int .u8 15), .lit (.int .u8 25), .lit (.int .u8 17), .lit (.int .u8 4), .lit (.int .u8 8), .lit (.int .u8 31), .lit (.int .u8 27), .lit (.int .u8 13), .lit (.int .u8 23), .lit (.int .u8 21), .lit (.int .u8 19), .lit (.int .u8 16), .lit (.int .u8 7), .lit (.int .u8 26), .lit (.int .u8 12), .lit (.int .u8 18), .lit (.int .u8 6), .lit (.int .u8 11), .lit (.int .u8 5), .lit (.int .u8 10), .lit (.int .u8 9)]
def laid_math_bits_deBruijn64tab {H : Type} : DataW H := .agg [.lit (.int .u8 0), .lit (.int .u8 1), .lit (.int .u8 56), .lit (.int .u8 2), .lit (.int .u8 57), .lit (.int .u8 49), .lit (.int .u8 28), .lit (.int .u8 3), .lit (.int .u8 61), .lit (.int .u8 58), .lit (.int .u8 42), .lit (.int .u8 50), .lit (.int .u8 38), .lit (.int .u8 29), .lit (.int .u8 17), .lit (.int .u8 4), .lit (.int .u8 62), .lit (.int .u8 47), .lit (.int .u8 59), .lit (.int .u8 36), .lit (.int .u8 45), .lit (.int .u8 43), .lit (.int .u8 51), .lit (.int .u8 22), .lit (.int .u8 53), .lit (.int .u8 39), .lit (.int .u8 33), .lit (.int .u8 30), .lit (.int .u8 24), .lit (.int .u8 18), .lit (.int .u8 12), .lit (.int .u8 5), .lit (.int .u8 63), .lit (.int .u8 55), .lit (.int .u8 48), .lit (.int .u8 27), .lit (.int .u8 60), .lit (.int .u8 41), .lit (.int .u8 37), .lit (.int .u8 16), .lit (.int .u8 46), .lit (.int .u8 35), .lit (.int .u8 44), .lit (.int .u8 21), .lit (.int .u8 52), .lit (.int .u8 32), .lit (.int .u8 23), .lit (.int .u8 11), .lit (.int .u8 54), .lit (.int .u8 26), .lit (.int .u8 40), .lit (.int .u8 15), .lit (.int .u8 34), .lit (.int .u8 20), .lit (.int .u8 31), .lit (.int .u8 10), .lit (.int .u8 25), .lit (.int .u8 14), .lit (.int .u8 19), .lit (.int .u8 9), .lit (.int .u8 13), .lit (.int .u8 8), .lit (.int .u8 7), .lit (.int .u8 6)]
def laid_internal_strconv_uint64pow10 {H : Type} : DataW H := .agg [.lit (.int .u64 1), .lit (.int .u64 10), .lit (.int .u64 100), .lit (.int .u64 1000), .lit (.int .u64 10000), .lit (.int .u64 100000), .lit (.int .u64 1000000), .lit (.int .u64 10000000), .lit (.int .u64 100000000), .lit (.int .u64 1000000000), .lit (.int .u64 10000000000), .lit (.int .u64 100000000000), .lit (.int .u64 1000000000000), .lit (.int .u64 10000000000000), .lit (.int .u64 100000000000000), .lit (.int .u64 1000000000000000), .lit (.int .u64 10000000000000000), .lit (.int .u64 100000000000000000), .lit (.int .u64 1000000000000000000), .lit (.int .u64 10000000000000000000)]

/-- 'drosslaw47.QueryValid': WHATEVER THE INPUT: true; the input reads as it did. -/
def queryValidSpec : ChangeSpec := { name := "queryValid", fn := fun _ => fun
  | [d1, d2] => { results := [.lit (.bool true)], args := [d1, d2] }
  | _ => none }
def queryValidRow : OpenClaim := { program := "ytlmcnindhfbkhaagreatdoor", sum := "882eba9d5bfcc9e195c053eb09ea19f5361507ccd6ab18f2aa7cdc069fc6a8d0", func := "dross/drosslaw47.QueryValid", spec := "queryValid", inPlace := ["internal/abi.NoEscape", "internal/bytealg.MakeNoZero"], unfollowed := true, recurses := true, named := ["internal/strconv.uint64pow10", "math/bits.deBruijn32tab", "math/bits.deBruijn64tab"], apart := false, laid := [("math/bits.deBruijn32tab", laid_math_bits_deBruijn32tab), ("math/bits.deBruijn64tab", laid_math_bits_deBruijn64tab), ("internal/strconv.uint64pow10", laid_internal_strconv_uint64pow10)] }
def QueryValidSaid : Prop := queryValidRow.holds Tryz.pinned (OpenSpec.ofChange queryValidSpec)

/-- ITS FALSE NEIGHBOUR: 'it returns false'. Refute it at one input. -/
def queryValidWrong : ChangeSpec := { name := "queryValid", fn := fun _ => fun
  | [d1, d2] => { results := [.lit (.bool false)], args := [d1, d2] }
  | _ => none }
def QueryValidWrongFalsely : Prop := queryValidRow.holds Tryz.pinned (OpenSpec.ofChange queryValidWrong)

/-- 'drosslaw47.QueryAnswers': WHATEVER THE INPUT: true; the input reads as it did. -/
def queryAnswersSpec : ChangeSpec := { name := "queryAnswers", fn := fun _ => fun
  | [d1, d2] => { results := [.lit (.bool true)], args := [d1, d2] }
  | _ => none }
def queryAnswersRow : OpenClaim := { program := "ytlmcnindhfbkhaagreatdoor", sum := "882eba9d5bfcc9e195c053eb09ea19f5361507ccd6ab18f2aa7cdc069fc6a8d0", func := "dross/drosslaw47.QueryAnswers", spec := "queryAnswers", inPlace := ["internal/abi.NoEscape", "internal/bytealg.MakeNoZero"], unfollowed := true, recurses := true, named := ["internal/strconv.uint64pow10", "math/bits.deBruijn32tab", "math/bits.deBruijn64tab"], apart := false, laid := [("math/bits.deBruijn32tab", laid_math_bits_deBruijn32tab), ("math/bits.deBruijn64tab", laid_math_bits_deBruijn64tab), ("internal/strconv.uint64pow10", laid_internal_strconv_uint64pow10)] }
def QueryAnswersSaid : Prop := queryAnswersRow.holds Tryz.pinned (OpenSpec.ofChange queryAnswersSpec)

/-- ITS FALSE NEIGHBOUR: 'it returns false'. Refute it at one input. -/
def queryAnswersWrong : ChangeSpec := { name := "queryAnswers", fn := fun _ => fun
  | [d1, d2] => { results := [.lit (.bool false)], args := [d1, d2] }
  | _ => none }
def QueryAnswersWrongFalsely : Prop := queryAnswersRow.holds Tryz.pinned (OpenSpec.ofChange queryAnswersWrong)

/-- 'drosslaw47.QueryHomomorphism': WHATEVER THE INPUT: true; the input reads as it did. -/
def queryHomomorphismSpec : ChangeSpec := { name := "queryHomomorphism", fn := fun _ => fun
  | [d1, d2] => { results := [.lit (.bool true)], args := [d1, d2] }
  | _ => none }
def queryHomomorphismRow : OpenClaim := { program := "ytlmcnindhfbkhaagreatdoor", sum := "882eba9d5bfcc9e195c053eb09ea19f5361507ccd6ab18f2aa7cdc069fc6a8d0", func := "dross/drosslaw47.QueryHomomorphism", spec := "queryHomomorphism", inPlace := ["internal/abi.NoEscape", "internal/bytealg.MakeNoZero"], unfollowed := true, recurses := true, named := ["internal/strconv.uint64pow10", "math/bits.deBruijn32tab", "math/bits.deBruijn64tab"], apart := false, laid := [("math/bits.deBruijn32tab", laid_math_bits_deBruijn32tab), ("math/bits.deBruijn64tab", laid_math_bits_deBruijn64tab), ("internal/strconv.uint64pow10", laid_internal_strconv_uint64pow10)] }
def QueryHomomorphismSaid : Prop := queryHomomorphismRow.holds Tryz.pinned (OpenSpec.ofChange queryHomomorphismSpec)

/-- ITS FALSE NEIGHBOUR: 'it returns false'. Refute it at one input. -/
def queryHomomorphismWrong : ChangeSpec := { name := "queryHomomorphism", fn := fun _ => fun
  | [d1, d2] => { results := [.lit (.bool false)], args := [d1, d2] }
  | _ => none }
def QueryHomomorphismWrongFalsely : Prop := queryHomomorphismRow.holds Tryz.pinned (OpenSpec.ofChange queryHomomorphismWrong)

/-- 'drosslaw47.QueryContained': WHATEVER THE INPUT: true; the input reads as it did. -/
def queryContainedSpec : ChangeSpec := { name := "queryContained", fn := fun _ => fun
  | [d1, d2, d3] => { results := [.lit (.bool true)], args := [d1, d2, d3] }
  | _ => none }
def queryContainedRow : OpenClaim := { program := "ytlmcnindhfbkhaagreatdoor", sum := "882eba9d5bfcc9e195c053eb09ea19f5361507ccd6ab18f2aa7cdc069fc6a8d0", func := "dross/drosslaw47.QueryContained", spec := "queryContained", inPlace := ["internal/abi.NoEscape", "internal/bytealg.MakeNoZero"], unfollowed := true, recurses := true, named := ["internal/strconv.uint64pow10", "math/bits.deBruijn32tab", "math/bits.deBruijn64tab"], apart := false, laid := [("math/bits.deBruijn32tab", laid_math_bits_deBruijn32tab), ("math/bits.deBruijn64tab", laid_math_bits_deBruijn64tab), ("internal/strconv.uint64pow10", laid_internal_strconv_uint64pow10)] }
def QueryContainedSaid : Prop := queryContainedRow.holds Tryz.pinned (OpenSpec.ofChange queryContainedSpec)

/-- ITS FALSE NEIGHBOUR: 'it returns false'. Refute it at one input. -/
def queryContainedWrong : ChangeSpec := { name := "queryContained", fn := fun _ => fun
  | [d1, d2, d3] => { results := [.lit (.bool false)], args := [d1, d2, d3] }
  | _ => none }
def QueryContainedWrongFalsely : Prop := queryContainedRow.holds Tryz.pinned (OpenSpec.ofChange queryContainedWrong)

/-- 'drosslaw47.QueryMinimal': WHATEVER THE INPUT: true; the input reads as it did. -/
def queryMinimalSpec : ChangeSpec := { name := "queryMinimal", fn := fun _ => fun
  | [d] => { results := [.lit (.bool true)], args := [d] }
  | _ => none }
def queryMinimalRow : OpenClaim := { program := "ytlmcnindhfbkhaagreatdoor", sum := "882eba9d5bfcc9e195c053eb09ea19f5361507ccd6ab18f2aa7cdc069fc6a8d0", func := "dross/drosslaw47.QueryMinimal", spec := "queryMinimal", inPlace := ["internal/abi.NoEscape", "internal/bytealg.MakeNoZero"], unfollowed := true, recurses := true, named := ["internal/strconv.uint64pow10", "math/bits.deBruijn32tab", "math/bits.deBruijn64tab"], apart := false, laid := [("math/bits.deBruijn32tab", laid_math_bits_deBruijn32tab), ("math/bits.deBruijn64tab", laid_math_bits_deBruijn64tab), ("internal/strconv.uint64pow10", laid_internal_strconv_uint64pow10)] }
def QueryMinimalSaid : Prop := queryMinimalRow.holds Tryz.pinned (OpenSpec.ofChange queryMinimalSpec)

/-- ITS FALSE NEIGHBOUR: 'it returns false'. Refute it at one input. -/
def queryMinimalWrong : ChangeSpec := { name := "queryMinimal", fn := fun _ => fun
  | [d] => { results := [.lit (.bool false)], args := [d] }
  | _ => none }
def QueryMinimalWrongFalsely : Prop := queryMinimalRow.holds Tryz.pinned (OpenSpec.ofChange queryMinimalWrong)

/-- 'drosslaw47.QueryReduced': WHATEVER THE INPUT: true; the input reads as it did. -/
def queryReducedSpec : ChangeSpec := { name := "queryReduced", fn := fun _ => fun
  | [d1, d2] => { results := [.lit (.bool true)], args := [d1, d2] }
  | _ => none }
def queryReducedRow : OpenClaim := { program := "ytlmcnindhfbkhaagreatdoor", sum := "882eba9d5bfcc9e195c053eb09ea19f5361507ccd6ab18f2aa7cdc069fc6a8d0", func := "dross/drosslaw47.QueryReduced", spec := "queryReduced", inPlace := ["internal/abi.NoEscape", "internal/bytealg.MakeNoZero"], unfollowed := true, recurses := true, named := ["internal/strconv.uint64pow10", "math/bits.deBruijn32tab", "math/bits.deBruijn64tab"], apart := false, laid := [("math/bits.deBruijn32tab", laid_math_bits_deBruijn32tab), ("math/bits.deBruijn64tab", laid_math_bits_deBruijn64tab), ("internal/strconv.uint64pow10", laid_internal_strconv_uint64pow10)] }
def QueryReducedSaid : Prop := queryReducedRow.holds Tryz.pinned (OpenSpec.ofChange queryReducedSpec)

/-- ITS FALSE NEIGHBOUR: 'it returns false'. Refute it at one input. -/
def queryReducedWrong : ChangeSpec := { name := "queryReduced", fn := fun _ => fun
  | [d1, d2] => { results := [.lit (.bool false)], args := [d1, d2] }
  | _ => none }
def QueryReducedWrongFalsely : Prop := queryReducedRow.holds Tryz.pinned (OpenSpec.ofChange queryReducedWrong)

/-- 'drosslaw47.QueryFormat': WHATEVER THE INPUT: true; the input reads as it did. -/
def queryFormatSpec : ChangeSpec := { name := "queryFormat", fn := fun _ => fun
  | [d] => { results := [.lit (.bool true)], args := [d] }
  | _ => none }
def queryFormatRow : OpenClaim := { program := "ytlmcnindhfbkhaagreatdoor", sum := "882eba9d5bfcc9e195c053eb09ea19f5361507ccd6ab18f2aa7cdc069fc6a8d0", func := "dross/drosslaw47.QueryFormat", spec := "queryFormat", inPlace := ["internal/abi.NoEscape", "internal/bytealg.MakeNoZero"], unfollowed := true, recurses := true, named := ["internal/strconv.uint64pow10", "math/bits.deBruijn32tab", "math/bits.deBruijn64tab"], apart := false, laid := [("math/bits.deBruijn32tab", laid_math_bits_deBruijn32tab), ("math/bits.deBruijn64tab", laid_math_bits_deBruijn64tab), ("internal/strconv.uint64pow10", laid_internal_strconv_uint64pow10)] }
def QueryFormatSaid : Prop := queryFormatRow.holds Tryz.pinned (OpenSpec.ofChange queryFormatSpec)

/-- ITS FALSE NEIGHBOUR: 'it returns false'. Refute it at one input. -/
def queryFormatWrong : ChangeSpec := { name := "queryFormat", fn := fun _ => fun
  | [d] => { results := [.lit (.bool false)], args := [d] }
  | _ => none }
def QueryFormatWrongFalsely : Prop := queryFormatRow.holds Tryz.pinned (OpenSpec.ofChange queryFormatWrong)

/-- 'drosslaw47.QueryMonotone': WHATEVER THE INPUT: true; the input reads as it did. -/
def queryMonotoneSpec : ChangeSpec := { name := "queryMonotone", fn := fun _ => fun
  | [d1, d2, d3] => { results := [.lit (.bool true)], args := [d1, d2, d3] }
  | _ => none }
def queryMonotoneRow : OpenClaim := { program := "ytlmcnindhfbkhaagreatdoor", sum := "882eba9d5bfcc9e195c053eb09ea19f5361507ccd6ab18f2aa7cdc069fc6a8d0", func := "dross/drosslaw47.QueryMonotone", spec := "queryMonotone", inPlace := ["internal/abi.NoEscape", "internal/bytealg.MakeNoZero"], unfollowed := true, recurses := true, named := ["internal/strconv.uint64pow10", "math/bits.deBruijn32tab", "math/bits.deBruijn64tab"], apart := false, laid := [("math/bits.deBruijn32tab", laid_math_bits_deBruijn32tab), ("math/bits.deBruijn64tab", laid_math_bits_deBruijn64tab), ("internal/strconv.uint64pow10", laid_internal_strconv_uint64pow10)] }
def QueryMonotoneSaid : Prop := queryMonotoneRow.holds Tryz.pinned (OpenSpec.ofChange queryMonotoneSpec)

/-- ITS FALSE NEIGHBOUR: 'it returns false'. Refute it at one input. -/
def queryMonotoneWrong : ChangeSpec := { name := "queryMonotone", fn := fun _ => fun
  | [d1, d2, d3] => { results := [.lit (.bool false)], args := [d1, d2, d3] }
  | _ => none }
def QueryMonotoneWrongFalsely : Prop := queryMonotoneRow.holds Tryz.pinned (OpenSpec.ofChange queryMonotoneWrong)

/-- 'drosslaw47.QueryHolds': WHATEVER THE INPUT: true; the input reads as it did. -/
def queryHoldsSpec : ChangeSpec := { name := "queryHolds", fn := fun _ => fun
  | [d1, d2, d3] => { results := [.lit (.bool true)], args := [d1, d2, d3] }
  | _ => none }
def queryHoldsRow : OpenClaim := { program := "ytlmcnindhfbkhaagreatdoor", sum := "882eba9d5bfcc9e195c053eb09ea19f5361507ccd6ab18f2aa7cdc069fc6a8d0", func := "dross/drosslaw47.QueryHolds", spec := "queryHolds", inPlace := ["internal/abi.NoEscape", "internal/bytealg.MakeNoZero"], unfollowed := true, recurses := true, named := ["internal/strconv.uint64pow10", "math/bits.deBruijn32tab", "math/bits.deBruijn64tab"], apart := false, laid := [("math/bits.deBruijn32tab", laid_math_bits_deBruijn32tab), ("math/bits.deBruijn64tab", laid_math_bits_deBruijn64tab), ("internal/strconv.uint64pow10", laid_internal_strconv_uint64pow10)] }
def QueryHoldsSaid : Prop := queryHoldsRow.holds Tryz.pinned (OpenSpec.ofChange queryHoldsSpec)

/-- ITS FALSE NEIGHBOUR: 'it returns false'. Refute it at one input. -/
def queryHoldsWrong : ChangeSpec := { name := "queryHolds", fn := fun _ => fun
  | [d1, d2, d3] => { results := [.lit (.bool false)], args := [d1, d2, d3] }
  | _ => none }
def QueryHoldsWrongFalsely : Prop := queryHoldsRow.holds Tryz.pinned (OpenSpec.ofChange queryHoldsWrong)

/-- 'drosslaw47.QueryErrors': WHATEVER THE INPUT: true; the input reads as it did. -/
def queryErrorsSpec : ChangeSpec := { name := "queryErrors", fn := fun _ => fun
  | [d1, d2, d3] => { results := [.lit (.bool true)], args := [d1, d2, d3] }
  | _ => none }
def queryErrorsRow : OpenClaim := { program := "ytlmcnindhfbkhaagreatdoor", sum := "882eba9d5bfcc9e195c053eb09ea19f5361507ccd6ab18f2aa7cdc069fc6a8d0", func := "dross/drosslaw47.QueryErrors", spec := "queryErrors", inPlace := ["internal/abi.NoEscape", "internal/bytealg.MakeNoZero"], unfollowed := true, recurses := true, named := ["internal/strconv.uint64pow10", "math/bits.deBruijn32tab", "math/bits.deBruijn64tab"], apart := false, laid := [("math/bits.deBruijn32tab", laid_math_bits_deBruijn32tab), ("math/bits.deBruijn64tab", laid_math_bits_deBruijn64tab), ("internal/strconv.uint64pow10", laid_internal_strconv_uint64pow10)] }
def QueryErrorsSaid : Prop := queryErrorsRow.holds Tryz.pinned (OpenSpec.ofChange queryErrorsSpec)

/-- ITS FALSE NEIGHBOUR: 'it returns false'. Refute it at one input. -/
def queryErrorsWrong : ChangeSpec := { name := "queryErrors", fn := fun _ => fun
  | [d1, d2, d3] => { results := [.lit (.bool false)], args := [d1, d2, d3] }
  | _ => none }
def QueryErrorsWrongFalsely : Prop := queryErrorsRow.holds Tryz.pinned (OpenSpec.ofChange queryErrorsWrong)

/- THE SECOND FORM. 'bulk': how many values and letters a reading holds, each counted each time it is reached (what is shared counts as often as it is met; a slice's spare places count too). A statement '..UptoSaid' is the law's where the arguments, and the package variables that the reading takes, are together of bulk at most 1048576: NARROWER than '..Said'. Prove '..Said' where nothing that the law and all that it calls make is longer than what came in: it says more and counts as full. Else prove '..UptoSaid'. A law counts once. -/
mutual
def uptoBulk {H : Type} : DataW H → Nat
  | .lit (.string bytes) => bytes.length + 1
  | .lit _ => 1
  | .nil => 1
  | .ptr d => uptoBulk d + 1
  | .slice elems spare => uptoBulkAll elems + uptoBulkAll spare + 1
  | .agg parts => uptoBulkAll parts + 1
  | .iface _ d => uptoBulk d + 1
  | .map entries => uptoBulkEntries entries + 1
  | .held _ => 1
def uptoBulkAll {H : Type} : List (DataW H) → Nat
  | [] => 0
  | d :: r => uptoBulk d + uptoBulkAll r
def uptoBulkEntries {H : Type} : List (Lit × DataW H) → Nat
  | [] => 0
  | x :: r => uptoBulkEntry x + uptoBulkEntries r
def uptoBulkEntry {H : Type} : Lit × DataW H → Nat
  | (.string bytes, d) => bytes.length + uptoBulk d + 1
  | (_, d) => uptoBulk d + 1
 end
def uptoSmall : (H : Type) → List (DataW H) → Bool := fun _ ds => decide (uptoBulkAll ds ≤ 1048576)
def OpenSpec.upto (s : _root_.Go.ChangeSpec) : _root_.Go.OpenSpec := { _root_.Go.OpenSpec.ofChange s with cond := some uptoSmall }

/-- 'drosslaw47.QueryValid', WHERE WHAT IT READS IS OF BULK AT MOST 1048576: true; the input reads as it did. -/
def queryValidUptoRow : OpenClaim := { program := "ytlmcnindhfbkhaagreatdoor", sum := "882eba9d5bfcc9e195c053eb09ea19f5361507ccd6ab18f2aa7cdc069fc6a8d0", func := "dross/drosslaw47.QueryValid", spec := "queryValid", inPlace := ["internal/abi.NoEscape", "internal/bytealg.MakeNoZero"], unfollowed := true, recurses := true, named := ["internal/strconv.uint64pow10", "math/bits.deBruijn32tab", "math/bits.deBruijn64tab"], apart := false, laid := [("math/bits.deBruijn32tab", laid_math_bits_deBruijn32tab), ("math/bits.deBruijn64tab", laid_math_bits_deBruijn64tab), ("internal/strconv.uint64pow10", laid_internal_strconv_uint64pow10)], narrowed := true }
def QueryValidUptoSaid : Prop := queryValidUptoRow.holds Tryz.pinned (OpenSpec.upto queryValidSpec)

/-- 'drosslaw47.QueryAnswers', WHERE WHAT IT READS IS OF BULK AT MOST 1048576: true; the input reads as it did. -/
def queryAnswersUptoRow : OpenClaim := { program := "ytlmcnindhfbkhaagreatdoor", sum := "882eba9d5bfcc9e195c053eb09ea19f5361507ccd6ab18f2aa7cdc069fc6a8d0", func := "dross/drosslaw47.QueryAnswers", spec := "queryAnswers", inPlace := ["internal/abi.NoEscape", "internal/bytealg.MakeNoZero"], unfollowed := true, recurses := true, named := ["internal/strconv.uint64pow10", "math/bits.deBruijn32tab", "math/bits.deBruijn64tab"], apart := false, laid := [("math/bits.deBruijn32tab", laid_math_bits_deBruijn32tab), ("math/bits.deBruijn64tab", laid_math_bits_deBruijn64tab), ("internal/strconv.uint64pow10", laid_internal_strconv_uint64pow10)], narrowed := true }
def QueryAnswersUptoSaid : Prop := queryAnswersUptoRow.holds Tryz.pinned (OpenSpec.upto queryAnswersSpec)

/-- 'drosslaw47.QueryHomomorphism', WHERE WHAT IT READS IS OF BULK AT MOST 1048576: true; the input reads as it did. -/
def queryHomomorphismUptoRow : OpenClaim := { program := "ytlmcnindhfbkhaagreatdoor", sum := "882eba9d5bfcc9e195c053eb09ea19f5361507ccd6ab18f2aa7cdc069fc6a8d0", func := "dross/drosslaw47.QueryHomomorphism", spec := "queryHomomorphism", inPlace := ["internal/abi.NoEscape", "internal/bytealg.MakeNoZero"], unfollowed := true, recurses := true, named := ["internal/strconv.uint64pow10", "math/bits.deBruijn32tab", "math/bits.deBruijn64tab"], apart := false, laid := [("math/bits.deBruijn32tab", laid_math_bits_deBruijn32tab), ("math/bits.deBruijn64tab", laid_math_bits_deBruijn64tab), ("internal/strconv.uint64pow10", laid_internal_strconv_uint64pow10)], narrowed := true }
def QueryHomomorphismUptoSaid : Prop := queryHomomorphismUptoRow.holds Tryz.pinned (OpenSpec.upto queryHomomorphismSpec)

/-- 'drosslaw47.QueryContained', WHERE WHAT IT READS IS OF BULK AT MOST 1048576: true; the input reads as it did. -/
def queryContainedUptoRow : OpenClaim := { program := "ytlmcnindhfbkhaagreatdoor", sum := "882eba9d5bfcc9e195c053eb09ea19f5361507ccd6ab18f2aa7cdc069fc6a8d0", func := "dross/drosslaw47.QueryContained", spec := "queryContained", inPlace := ["internal/abi.NoEscape", "internal/bytealg.MakeNoZero"], unfollowed := true, recurses := true, named := ["internal/strconv.uint64pow10", "math/bits.deBruijn32tab", "math/bits.deBruijn64tab"], apart := false, laid := [("math/bits.deBruijn32tab", laid_math_bits_deBruijn32tab), ("math/bits.deBruijn64tab", laid_math_bits_deBruijn64tab), ("internal/strconv.uint64pow10", laid_internal_strconv_uint64pow10)], narrowed := true }
def QueryContainedUptoSaid : Prop := queryContainedUptoRow.holds Tryz.pinned (OpenSpec.upto queryContainedSpec)

/-- 'drosslaw47.QueryMinimal', WHERE WHAT IT READS IS OF BULK AT MOST 1048576: true; the input reads as it did. -/
def queryMinimalUptoRow : OpenClaim := { program := "ytlmcnindhfbkhaagreatdoor", sum := "882eba9d5bfcc9e195c053eb09ea19f5361507ccd6ab18f2aa7cdc069fc6a8d0", func := "dross/drosslaw47.QueryMinimal", spec := "queryMinimal", inPlace := ["internal/abi.NoEscape", "internal/bytealg.MakeNoZero"], unfollowed := true, recurses := true, named := ["internal/strconv.uint64pow10", "math/bits.deBruijn32tab", "math/bits.deBruijn64tab"], apart := false, laid := [("math/bits.deBruijn32tab", laid_math_bits_deBruijn32tab), ("math/bits.deBruijn64tab", laid_math_bits_deBruijn64tab), ("internal/strconv.uint64pow10", laid_internal_strconv_uint64pow10)], narrowed := true }
def QueryMinimalUptoSaid : Prop := queryMinimalUptoRow.holds Tryz.pinned (OpenSpec.upto queryMinimalSpec)

/-- 'drosslaw47.QueryReduced', WHERE WHAT IT READS IS OF BULK AT MOST 1048576: true; the input reads as it did. -/
def queryReducedUptoRow : OpenClaim := { program := "ytlmcnindhfbkhaagreatdoor", sum := "882eba9d5bfcc9e195c053eb09ea19f5361507ccd6ab18f2aa7cdc069fc6a8d0", func := "dross/drosslaw47.QueryReduced", spec := "queryReduced", inPlace := ["internal/abi.NoEscape", "internal/bytealg.MakeNoZero"], unfollowed := true, recurses := true, named := ["internal/strconv.uint64pow10", "math/bits.deBruijn32tab", "math/bits.deBruijn64tab"], apart := false, laid := [("math/bits.deBruijn32tab", laid_math_bits_deBruijn32tab), ("math/bits.deBruijn64tab", laid_math_bits_deBruijn64tab), ("internal/strconv.uint64pow10", laid_internal_strconv_uint64pow10)], narrowed := true }
def QueryReducedUptoSaid : Prop := queryReducedUptoRow.holds Tryz.pinned (OpenSpec.upto queryReducedSpec)

/-- 'drosslaw47.QueryFormat', WHERE WHAT IT READS IS OF BULK AT MOST 1048576: true; the input reads as it did. -/
def queryFormatUptoRow : OpenClaim := { program := "ytlmcnindhfbkhaagreatdoor", sum := "882eba9d5bfcc9e195c053eb09ea19f5361507ccd6ab18f2aa7cdc069fc6a8d0", func := "dross/drosslaw47.QueryFormat", spec := "queryFormat", inPlace := ["internal/abi.NoEscape", "internal/bytealg.MakeNoZero"], unfollowed := true, recurses := true, named := ["internal/strconv.uint64pow10", "math/bits.deBruijn32tab", "math/bits.deBruijn64tab"], apart := false, laid := [("math/bits.deBruijn32tab", laid_math_bits_deBruijn32tab), ("math/bits.deBruijn64tab", laid_math_bits_deBruijn64tab), ("internal/strconv.uint64pow10", laid_internal_strconv_uint64pow10)], narrowed := true }
def QueryFormatUptoSaid : Prop := queryFormatUptoRow.holds Tryz.pinned (OpenSpec.upto queryFormatSpec)

/-- 'drosslaw47.QueryMonotone', WHERE WHAT IT READS IS OF BULK AT MOST 1048576: true; the input reads as it did. -/
def queryMonotoneUptoRow : OpenClaim := { program := "ytlmcnindhfbkhaagreatdoor", sum := "882eba9d5bfcc9e195c053eb09ea19f5361507ccd6ab18f2aa7cdc069fc6a8d0", func := "dross/drosslaw47.QueryMonotone", spec := "queryMonotone", inPlace := ["internal/abi.NoEscape", "internal/bytealg.MakeNoZero"], unfollowed := true, recurses := true, named := ["internal/strconv.uint64pow10", "math/bits.deBruijn32tab", "math/bits.deBruijn64tab"], apart := false, laid := [("math/bits.deBruijn32tab", laid_math_bits_deBruijn32tab), ("math/bits.deBruijn64tab", laid_math_bits_deBruijn64tab), ("internal/strconv.uint64pow10", laid_internal_strconv_uint64pow10)], narrowed := true }
def QueryMonotoneUptoSaid : Prop := queryMonotoneUptoRow.holds Tryz.pinned (OpenSpec.upto queryMonotoneSpec)

/-- 'drosslaw47.QueryHolds', WHERE WHAT IT READS IS OF BULK AT MOST 1048576: true; the input reads as it did. -/
def queryHoldsUptoRow : OpenClaim := { program := "ytlmcnindhfbkhaagreatdoor", sum := "882eba9d5bfcc9e195c053eb09ea19f5361507ccd6ab18f2aa7cdc069fc6a8d0", func := "dross/drosslaw47.QueryHolds", spec := "queryHolds", inPlace := ["internal/abi.NoEscape", "internal/bytealg.MakeNoZero"], unfollowed := true, recurses := true, named := ["internal/strconv.uint64pow10", "math/bits.deBruijn32tab", "math/bits.deBruijn64tab"], apart := false, laid := [("math/bits.deBruijn32tab", laid_math_bits_deBruijn32tab), ("math/bits.deBruijn64tab", laid_math_bits_deBruijn64tab), ("internal/strconv.uint64pow10", laid_internal_strconv_uint64pow10)], narrowed := true }
def QueryHoldsUptoSaid : Prop := queryHoldsUptoRow.holds Tryz.pinned (OpenSpec.upto queryHoldsSpec)

/-- 'drosslaw47.QueryErrors', WHERE WHAT IT READS IS OF BULK AT MOST 1048576: true; the input reads as it did. -/
def queryErrorsUptoRow : OpenClaim := { program := "ytlmcnindhfbkhaagreatdoor", sum := "882eba9d5bfcc9e195c053eb09ea19f5361507ccd6ab18f2aa7cdc069fc6a8d0", func := "dross/drosslaw47.QueryErrors", spec := "queryErrors", inPlace := ["internal/abi.NoEscape", "internal/bytealg.MakeNoZero"], unfollowed := true, recurses := true, named := ["internal/strconv.uint64pow10", "math/bits.deBruijn32tab", "math/bits.deBruijn64tab"], apart := false, laid := [("math/bits.deBruijn32tab", laid_math_bits_deBruijn32tab), ("math/bits.deBruijn64tab", laid_math_bits_deBruijn64tab), ("internal/strconv.uint64pow10", laid_internal_strconv_uint64pow10)], narrowed := true }
def QueryErrorsUptoSaid : Prop := queryErrorsUptoRow.holds Tryz.pinned (OpenSpec.upto queryErrorsSpec)

end Rows
end Go.Proofs.YtlmcnindhfbkhaaGreatDoor
