/-
  No cell of these rows narrows 'for every input' (looked for: loops, veiled, ifaces, maps, wideKeys, modest, calm, conditions, laid).
  DERIVED. THE GIVEN ROWS OF THIS SEAT. 8 by the template 'for every input the law returns true; each argument reads behind the call as it read before'; 0 by the template 'total and deterministic' (their statements: YtgecckncfjmhmaaTotals.lean).
  GIVEN WITH THE SEED: the statements are not yours to turn. If you find one false, say at which input.
  Laid BY PROGRAM, IN A SANDBOX (cutbox-rows.mjs): the forced cells as the released guide's own fill.sh prints them over the translation 78ba7c37829b98c6… (all of the seat's roots in one cut). By AI agents, Wed Nov 11 2026. No macro, syntax, notation, axiom, sorry.
-/
import Derived.Test.YtgecckncfjmhmaaChecked
import GoSem.Claim
import GoSem.ClaimJoined
import GoSem.ClaimMapViews
import Derived.JoinedTies
import Derived.KernelRfl
namespace Go.Proofs.Ytgecckncfjmhmaa
/- THE CELL 'sum', in the pinned program and in every row, IS THE sha256 OF THE DUMP (.gsa) THAT YtgecckncfjmhmaaProg.lean LOADS. Nothing in Lean hashes anything: it is a label: what it is worth is what the hold of that sum in a sandbox is worth. -/
noncomputable def Try.pinned : Pinned := { name := "ytgecckncfjmhmaa", sum := "78ba7c37829b98c627d17575e1ce4b1c9ddfb500789e84e3dee5cbbb64567764", checked := Try.checked }
namespace Rows
def none {H : Type} : Left H := { results := [], args := [] }

/-- 'drosslaw52.SimilarityMetric': WHATEVER THE INPUT: true; the input reads as it did. -/
def similarityMetricSpec : ChangeSpec := { name := "similarityMetric", fn := fun _ => fun
  | [d1, d2, d3] => { results := [.lit (.bool true)], args := [d1, d2, d3] }
  | _ => none }
def similarityMetricRow : OpenClaim := { program := "ytgecckncfjmhmaa", sum := "78ba7c37829b98c627d17575e1ce4b1c9ddfb500789e84e3dee5cbbb64567764", func := "dross/drosslaw52.SimilarityMetric", spec := "similarityMetric", inPlace := ["internal/abi.NoEscape", "internal/bytealg.MakeNoZero", "internal/bytealg.abigen_runtime_cmpstring", "math/bits.Add64", "math/bits.Sub64"], unfollowed := true, recurses := true, apart := false }
def SimilarityMetricSaid : Prop := similarityMetricRow.holds Try.pinned (OpenSpec.ofChange similarityMetricSpec)

/-- ITS FALSE NEIGHBOUR: 'it returns false'. Refute it at one input. -/
def similarityMetricWrong : ChangeSpec := { name := "similarityMetric", fn := fun _ => fun
  | [d1, d2, d3] => { results := [.lit (.bool false)], args := [d1, d2, d3] }
  | _ => none }
def SimilarityMetricWrongFalsely : Prop := similarityMetricRow.holds Try.pinned (OpenSpec.ofChange similarityMetricWrong)

/-- 'drosslaw52.SimilarityApply': WHATEVER THE INPUT: true; the input reads as it did. -/
def similarityApplySpec : ChangeSpec := { name := "similarityApply", fn := fun _ => fun
  | [d1, d2] => { results := [.lit (.bool true)], args := [d1, d2] }
  | _ => none }
def similarityApplyRow : OpenClaim := { program := "ytgecckncfjmhmaa", sum := "78ba7c37829b98c627d17575e1ce4b1c9ddfb500789e84e3dee5cbbb64567764", func := "dross/drosslaw52.SimilarityApply", spec := "similarityApply", inPlace := ["internal/abi.NoEscape", "internal/bytealg.MakeNoZero", "internal/bytealg.abigen_runtime_cmpstring", "math/bits.Add64", "math/bits.Sub64"], unfollowed := true, recurses := true, apart := false }
def SimilarityApplySaid : Prop := similarityApplyRow.holds Try.pinned (OpenSpec.ofChange similarityApplySpec)

/-- ITS FALSE NEIGHBOUR: 'it returns false'. Refute it at one input. -/
def similarityApplyWrong : ChangeSpec := { name := "similarityApply", fn := fun _ => fun
  | [d1, d2] => { results := [.lit (.bool false)], args := [d1, d2] }
  | _ => none }
def SimilarityApplyWrongFalsely : Prop := similarityApplyRow.holds Try.pinned (OpenSpec.ofChange similarityApplyWrong)

/-- 'drosslaw52.SimilarityGrams': WHATEVER THE INPUT: true; the input reads as it did. -/
def similarityGramsSpec : ChangeSpec := { name := "similarityGrams", fn := fun _ => fun
  | [d1, d2, d3] => { results := [.lit (.bool true)], args := [d1, d2, d3] }
  | _ => none }
def similarityGramsRow : OpenClaim := { program := "ytgecckncfjmhmaa", sum := "78ba7c37829b98c627d17575e1ce4b1c9ddfb500789e84e3dee5cbbb64567764", func := "dross/drosslaw52.SimilarityGrams", spec := "similarityGrams", inPlace := ["internal/abi.NoEscape", "internal/bytealg.MakeNoZero", "internal/bytealg.abigen_runtime_cmpstring", "math/bits.Add64", "math/bits.Sub64"], unfollowed := true, recurses := true, apart := false }
def SimilarityGramsSaid : Prop := similarityGramsRow.holds Try.pinned (OpenSpec.ofChange similarityGramsSpec)

/-- ITS FALSE NEIGHBOUR: 'it returns false'. Refute it at one input. -/
def similarityGramsWrong : ChangeSpec := { name := "similarityGrams", fn := fun _ => fun
  | [d1, d2, d3] => { results := [.lit (.bool false)], args := [d1, d2, d3] }
  | _ => none }
def SimilarityGramsWrongFalsely : Prop := similarityGramsRow.holds Try.pinned (OpenSpec.ofChange similarityGramsWrong)

/-- 'drosslaw52.SimilarityFilter': WHATEVER THE INPUT: true; the input reads as it did. -/
def similarityFilterSpec : ChangeSpec := { name := "similarityFilter", fn := fun _ => fun
  | [d1, d2, d3] => { results := [.lit (.bool true)], args := [d1, d2, d3] }
  | _ => none }
def similarityFilterRow : OpenClaim := { program := "ytgecckncfjmhmaa", sum := "78ba7c37829b98c627d17575e1ce4b1c9ddfb500789e84e3dee5cbbb64567764", func := "dross/drosslaw52.SimilarityFilter", spec := "similarityFilter", inPlace := ["internal/abi.NoEscape", "internal/bytealg.MakeNoZero", "internal/bytealg.abigen_runtime_cmpstring", "math/bits.Add64", "math/bits.Sub64"], unfollowed := true, recurses := true, apart := false }
def SimilarityFilterSaid : Prop := similarityFilterRow.holds Try.pinned (OpenSpec.ofChange similarityFilterSpec)

/-- ITS FALSE NEIGHBOUR: 'it returns false'. Refute it at one input. -/
def similarityFilterWrong : ChangeSpec := { name := "similarityFilter", fn := fun _ => fun
  | [d1, d2, d3] => { results := [.lit (.bool false)], args := [d1, d2, d3] }
  | _ => none }
def SimilarityFilterWrongFalsely : Prop := similarityFilterRow.holds Try.pinned (OpenSpec.ofChange similarityFilterWrong)

/-- 'drosslaw52.SimilaritySubsequence': WHATEVER THE INPUT: true; the input reads as it did. -/
def similaritySubsequenceSpec : ChangeSpec := { name := "similaritySubsequence", fn := fun _ => fun
  | [d1, d2] => { results := [.lit (.bool true)], args := [d1, d2] }
  | _ => none }
def similaritySubsequenceRow : OpenClaim := { program := "ytgecckncfjmhmaa", sum := "78ba7c37829b98c627d17575e1ce4b1c9ddfb500789e84e3dee5cbbb64567764", func := "dross/drosslaw52.SimilaritySubsequence", spec := "similaritySubsequence", inPlace := ["internal/abi.NoEscape", "internal/bytealg.MakeNoZero", "internal/bytealg.abigen_runtime_cmpstring", "math/bits.Add64", "math/bits.Sub64"], unfollowed := true, recurses := true, apart := false }
def SimilaritySubsequenceSaid : Prop := similaritySubsequenceRow.holds Try.pinned (OpenSpec.ofChange similaritySubsequenceSpec)

/-- ITS FALSE NEIGHBOUR: 'it returns false'. Refute it at one input. -/
def similaritySubsequenceWrong : ChangeSpec := { name := "similaritySubsequence", fn := fun _ => fun
  | [d1, d2] => { results := [.lit (.bool false)], args := [d1, d2] }
  | _ => none }
def SimilaritySubsequenceWrongFalsely : Prop := similaritySubsequenceRow.holds Try.pinned (OpenSpec.ofChange similaritySubsequenceWrong)

/-- 'drosslaw52.SimilarityDistance': WHATEVER THE INPUT: true; the input reads as it did. -/
def similarityDistanceSpec : ChangeSpec := { name := "similarityDistance", fn := fun _ => fun
  | [d1, d2, d3] => { results := [.lit (.bool true)], args := [d1, d2, d3] }
  | _ => none }
def similarityDistanceRow : OpenClaim := { program := "ytgecckncfjmhmaa", sum := "78ba7c37829b98c627d17575e1ce4b1c9ddfb500789e84e3dee5cbbb64567764", func := "dross/drosslaw52.SimilarityDistance", spec := "similarityDistance", inPlace := ["internal/abi.NoEscape", "internal/bytealg.MakeNoZero", "internal/bytealg.abigen_runtime_cmpstring", "math/bits.Add64", "math/bits.Sub64"], unfollowed := true, recurses := true, apart := false }
def SimilarityDistanceSaid : Prop := similarityDistanceRow.holds Try.pinned (OpenSpec.ofChange similarityDistanceSpec)

/-- ITS FALSE NEIGHBOUR: 'it returns false'. Refute it at one input. -/
def similarityDistanceWrong : ChangeSpec := { name := "similarityDistance", fn := fun _ => fun
  | [d1, d2, d3] => { results := [.lit (.bool false)], args := [d1, d2, d3] }
  | _ => none }
def SimilarityDistanceWrongFalsely : Prop := similarityDistanceRow.holds Try.pinned (OpenSpec.ofChange similarityDistanceWrong)

/-- 'drosslaw52.SimilarityScript': WHATEVER THE INPUT: true; the input reads as it did. -/
def similarityScriptSpec : ChangeSpec := { name := "similarityScript", fn := fun _ => fun
  | [d1, d2] => { results := [.lit (.bool true)], args := [d1, d2] }
  | _ => none }
def similarityScriptRow : OpenClaim := { program := "ytgecckncfjmhmaa", sum := "78ba7c37829b98c627d17575e1ce4b1c9ddfb500789e84e3dee5cbbb64567764", func := "dross/drosslaw52.SimilarityScript", spec := "similarityScript", inPlace := ["internal/abi.NoEscape", "internal/bytealg.MakeNoZero", "internal/bytealg.abigen_runtime_cmpstring", "math/bits.Add64", "math/bits.Sub64"], unfollowed := true, recurses := true, apart := false }
def SimilarityScriptSaid : Prop := similarityScriptRow.holds Try.pinned (OpenSpec.ofChange similarityScriptSpec)

/-- ITS FALSE NEIGHBOUR: 'it returns false'. Refute it at one input. -/
def similarityScriptWrong : ChangeSpec := { name := "similarityScript", fn := fun _ => fun
  | [d1, d2] => { results := [.lit (.bool false)], args := [d1, d2] }
  | _ => none }
def SimilarityScriptWrongFalsely : Prop := similarityScriptRow.holds Try.pinned (OpenSpec.ofChange similarityScriptWrong)

/-- 'drosslaw52.SimilarityMatch': WHATEVER THE INPUT: true; the input reads as it did. -/
def similarityMatchSpec : ChangeSpec := { name := "similarityMatch", fn := fun _ => fun
  | [d1, d2, d3] => { results := [.lit (.bool true)], args := [d1, d2, d3] }
  | _ => none }
def similarityMatchRow : OpenClaim := { program := "ytgecckncfjmhmaa", sum := "78ba7c37829b98c627d17575e1ce4b1c9ddfb500789e84e3dee5cbbb64567764", func := "dross/drosslaw52.SimilarityMatch", spec := "similarityMatch", inPlace := ["internal/abi.NoEscape", "internal/bytealg.MakeNoZero", "internal/bytealg.abigen_runtime_cmpstring", "math/bits.Add64", "math/bits.Sub64"], unfollowed := true, recurses := true, apart := false }
def SimilarityMatchSaid : Prop := similarityMatchRow.holds Try.pinned (OpenSpec.ofChange similarityMatchSpec)

/-- ITS FALSE NEIGHBOUR: 'it returns false'. Refute it at one input. -/
def similarityMatchWrong : ChangeSpec := { name := "similarityMatch", fn := fun _ => fun
  | [d1, d2, d3] => { results := [.lit (.bool false)], args := [d1, d2, d3] }
  | _ => none }
def SimilarityMatchWrongFalsely : Prop := similarityMatchRow.holds Try.pinned (OpenSpec.ofChange similarityMatchWrong)

/- THE SECOND FORM. 'bulk': how many values and letters a reading holds, each counted each time it is reached (what is shared counts as often as it is met; a slice's spare places count too). A statement '..UptoSaid' is the law's where the arguments, and the package variables that the reading takes, are together of bulk at most 1048576: NARROWER than '..Said'. Prove '..Said' where nothing that the law and all that it calls make is longer than what came in: it says more and counts as full. Else prove '..UptoSaid'. A law counts once. -/
mutual
def uptoBulk {H : Type} : DataW H → Nat
  | .lit (.string bytes) => bytes.length + 1
  | .lit _ => 1
  | .nil => 1
  | .ptr d => uptoBulk d + 1
  | .slice elems spare => uptoBulkAll elems + uptoBulkAll spare + 1
  | .agg parts => uptoBulkAll parts + 1
  | .iface _ d => uptoBulk d + 1
  | .map entries => uptoBulkEntries entries + 1
  | .held _ => 1
def uptoBulkAll {H : Type} : List (DataW H) → Nat
  | [] => 0
  | d :: r => uptoBulk d + uptoBulkAll r
def uptoBulkEntries {H : Type} : List (Lit × DataW H) → Nat
  | [] => 0
  | x :: r => uptoBulkEntry x + uptoBulkEntries r
def uptoBulkEntry {H : Type} : Lit × DataW H → Nat
  | (.string bytes, d) => bytes.length + uptoBulk d + 1
  | (_, d) => uptoBulk d + 1
 end
def uptoSmall : (H : Type) → List (DataW H) → Bool := fun _ ds => decide (uptoBulkAll ds ≤ 1048576)
def OpenSpec.upto (s : _root_.Go.ChangeSpec) : _root_.Go.OpenSpec := { _root_.Go.OpenSpec.ofChange s with cond := some uptoSmall }

/-- 'drosslaw52.SimilarityMetric', WHERE WHAT IT READS IS OF BULK AT MOST 1048576: true; the input reads as it did. -/
def similarityMetricUptoRow : OpenClaim := { program := "ytgecckncfjmhmaa", sum := "78ba7c37829b98c627d17575e1ce4b1c9ddfb500789e84e3dee5cbbb64567764", func := "dross/drosslaw52.SimilarityMetric", spec := "similarityMetric", inPlace := ["internal/abi.NoEscape", "internal/bytealg.MakeNoZero", "internal/bytealg.abigen_runtime_cmpstring", "math/bits.Add64", "math/bits.Sub64"], unfollowed := true, recurses := true, apart := false, narrowed := true }
def SimilarityMetricUptoSaid : Prop := similarityMetricUptoRow.holds Try.pinned (OpenSpec.upto similarityMetricSpec)

/-- 'drosslaw52.SimilarityApply', WHERE WHAT IT READS IS OF BULK AT MOST 1048576: true; the input reads as it did. -/
def similarityApplyUptoRow : OpenClaim := { program := "ytgecckncfjmhmaa", sum := "78ba7c37829b98c627d17575e1ce4b1c9ddfb500789e84e3dee5cbbb64567764", func := "dross/drosslaw52.SimilarityApply", spec := "similarityApply", inPlace := ["internal/abi.NoEscape", "internal/bytealg.MakeNoZero", "internal/bytealg.abigen_runtime_cmpstring", "math/bits.Add64", "math/bits.Sub64"], unfollowed := true, recurses := true, apart := false, narrowed := true }
def SimilarityApplyUptoSaid : Prop := similarityApplyUptoRow.holds Try.pinned (OpenSpec.upto similarityApplySpec)

/-- 'drosslaw52.SimilarityGrams', WHERE WHAT IT READS IS OF BULK AT MOST 1048576: true; the input reads as it did. -/
def similarityGramsUptoRow : OpenClaim := { program := "ytgecckncfjmhmaa", sum := "78ba7c37829b98c627d17575e1ce4b1c9ddfb500789e84e3dee5cbbb64567764", func := "dross/drosslaw52.SimilarityGrams", spec := "similarityGrams", inPlace := ["internal/abi.NoEscape", "internal/bytealg.MakeNoZero", "internal/bytealg.abigen_runtime_cmpstring", "math/bits.Add64", "math/bits.Sub64"], unfollowed := true, recurses := true, apart := false, narrowed := true }
def SimilarityGramsUptoSaid : Prop := similarityGramsUptoRow.holds Try.pinned (OpenSpec.upto similarityGramsSpec)

/-- 'drosslaw52.SimilarityFilter', WHERE WHAT IT READS IS OF BULK AT MOST 1048576: true; the input reads as it did. -/
def similarityFilterUptoRow : OpenClaim := { program := "ytgecckncfjmhmaa", sum := "78ba7c37829b98c627d17575e1ce4b1c9ddfb500789e84e3dee5cbbb64567764", func := "dross/drosslaw52.SimilarityFilter", spec := "similarityFilter", inPlace := ["internal/abi.NoEscape", "internal/bytealg.MakeNoZero", "internal/bytealg.abigen_runtime_cmpstring", "math/bits.Add64", "math/bits.Sub64"], unfollowed := true, recurses := true, apart := false, narrowed := true }
def SimilarityFilterUptoSaid : Prop := similarityFilterUptoRow.holds Try.pinned (OpenSpec.upto similarityFilterSpec)

/-- 'drosslaw52.SimilaritySubsequence', WHERE WHAT IT READS IS OF BULK AT MOST 1048576: true; the input reads as it did. -/
def similaritySubsequenceUptoRow : OpenClaim := { program := "ytgecckncfjmhmaa", sum := "78ba7c37829b98c627d17575e1ce4b1c9ddfb500789e84e3dee5cbbb64567764", func := "dross/drosslaw52.SimilaritySubsequence", spec := "similaritySubsequence", inPlace := ["internal/abi.NoEscape", "internal/bytealg.MakeNoZero", "internal/bytealg.abigen_runtime_cmpstring", "math/bits.Add64", "math/bits.Sub64"], unfollowed := true, recurses := true, apart := false, narrowed := true }
def SimilaritySubsequenceUptoSaid : Prop := similaritySubsequenceUptoRow.holds Try.pinned (OpenSpec.upto similaritySubsequenceSpec)

/-- 'drosslaw52.SimilarityDistance', WHERE WHAT IT READS IS OF BULK AT MOST 1048576: true; the input reads as it did. -/
def similarityDistanceUptoRow : OpenClaim := { program := "ytgecckncfjmhmaa", sum := "78ba7c37829b98c627d17575e1ce4b1c9ddfb500789e84e3dee5cbbb64567764", func := "dross/drosslaw52.SimilarityDistance", spec := "similarityDistance", inPlace := ["internal/abi.NoEscape", "internal/bytealg.MakeNoZero", "internal/bytealg.abigen_runtime_cmpstring", "math/bits.Add64", "math/bits.Sub64"], unfollowed := true, recurses := true, apart := false, narrowed := true }
def SimilarityDistanceUptoSaid : Prop := similarityDistanceUptoRow.holds Try.pinned (OpenSpec.upto similarityDistanceSpec)

/-- 'drosslaw52.SimilarityScript', WHERE WHAT IT READS IS OF BULK AT MOST 1048576: true; the input reads as it did. -/
def similarityScriptUptoRow : OpenClaim := { program := "ytgecckncfjmhmaa", sum := "78ba7c37829b98c627d17575e1ce4b1c9ddfb500789e84e3dee5cbbb64567764", func := "dross/drosslaw52.SimilarityScript", spec := "similarityScript", inPlace := ["internal/abi.NoEscape", "internal/bytealg.MakeNoZero", "internal/bytealg.abigen_runtime_cmpstring", "math/bits.Add64", "math/bits.Sub64"], unfollowed := true, recurses := true, apart := false, narrowed := true }
def SimilarityScriptUptoSaid : Prop := similarityScriptUptoRow.holds Try.pinned (OpenSpec.upto similarityScriptSpec)

/-- 'drosslaw52.SimilarityMatch', WHERE WHAT IT READS IS OF BULK AT MOST 1048576: true; the input reads as it did. -/
def similarityMatchUptoRow : OpenClaim := { program := "ytgecckncfjmhmaa", sum := "78ba7c37829b98c627d17575e1ce4b1c9ddfb500789e84e3dee5cbbb64567764", func := "dross/drosslaw52.SimilarityMatch", spec := "similarityMatch", inPlace := ["internal/abi.NoEscape", "internal/bytealg.MakeNoZero", "internal/bytealg.abigen_runtime_cmpstring", "math/bits.Add64", "math/bits.Sub64"], unfollowed := true, recurses := true, apart := false, narrowed := true }
def SimilarityMatchUptoSaid : Prop := similarityMatchUptoRow.holds Try.pinned (OpenSpec.upto similarityMatchSpec)

end Rows
end Go.Proofs.Ytgecckncfjmhmaa
