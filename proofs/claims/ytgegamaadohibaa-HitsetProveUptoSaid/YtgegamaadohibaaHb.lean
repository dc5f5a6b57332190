/- Hits and Weight of chapter 39, of the program and of the reference, and functions of package slices that they use. No condition. -/
import Derived.Test.YtgegamaadohibaaHa
import Derived.Test.YtgegamaadohibaaX
namespace Go.Abs
open Go
set_option linter.unusedSimpArgs false
set_option maxHeartbeats 1000000

def posI (v : Int) : List Int → Nat → Option Nat
  | [], _ => none
  | x :: r, i => if v = x then some i else posI v r (i + 1)
theorem posI_mem (v : Int) : ∀ (l : List Int) (i : Nat), (posI v l i).isSome = decide (v ∈ l)
  | [], i => by simp [posI]
  | x :: r, i => by
    have := posI_mem v r (i + 1)
    simp only [posI]
    by_cases h : v = x
    · simp [h]
    · simp [h, this]

theorem l448 (v : Int) (l : List Int) (hl : l.length ≤ 1048576) : ∀ m i : Nat, i + m = l.length →
    lp XT x448a1 x448b1 ⟨[(0, .p (.rd 1 (l.map encI))), (1, vI v), (7, vI l.length), (8, vI i)], [], 0⟩ = match posI v (l.drop i) i with | some k => some (.ret, ⟨[(4, vI k)], [], 0⟩) | none => some (.exit 0, ⟨[], [], 0⟩) := by
  intro m
  induction m with
  | zero =>
    intro i h
    have h1 : ¬ (i : Int) < l.length := by omega
    have h2 : l.drop i = [] := List.drop_of_length_le (by omega)
    rw [lp_nx]; conv => lhs; arg 1; unfold x448b1
    simp only [↓sxP, sxQ, xai, xgo, xop, xG, AOp.touched, oldX, nwX, newX, xo, xput, refX, xbin, xint, loadP, loadX, ofC, xcells, xagg, Nat.blt, Value.oneCell', refsO, okGc, renO, rI, coX, Option.isSome, outS, outT, resX, tupX, lend1, lend0, scalX, xsb, pvX, zeroX, spliceG, xapp, xappP, xrd, eqP1, xstr, zpv, Nat.beq, Nat.ble, ↓reduceIte, Nat.reduceAdd, Nat.reduceLeDiff, Nat.reduceBEq, Nat.reduceEqDiff, Nat.reduceLT, Nat.reduceSub, Nat.reduceMul, Int.reduceLT, Int.reduceLE, Int.reduceAdd, Int.reduceSub, Int.reduceNeg, Int.reduceToNat, Int.reduceEq, reduceCtorEq, norm_cons, norm_nil, normB, pOwn, pSel, gcS, reach, addN, getO, live, gcH, h1, h2, posI]
  | succ m ih =>
    intro i h
    have hi : i < l.length := by omega
    have h1 : (i : Int) < l.length := by omega
    rw [lp_nx]; conv => lhs; arg 1; unfold x448b1
    simp only [↓sxP, sxQ, xai, xgo, xop, xG, AOp.touched, oldX, nwX, newX, xo, xput, refX, xbin, xint, loadP, loadX, ofC, xcells, xagg, Nat.blt, Value.oneCell', refsO, okGc, renO, rI, coX, Option.isSome, outS, outT, resX, tupX, lend1, lend0, scalX, xsb, pvX, zeroX, spliceG, xapp, xappP, xrd, eqP1, xstr, zpv, Nat.beq, Nat.ble, ↓reduceIte, Nat.reduceAdd, Nat.reduceLeDiff, Nat.reduceBEq, Nat.reduceEqDiff, Nat.reduceLT, Nat.reduceSub, Nat.reduceMul, Int.reduceLT, Int.reduceLE, Int.reduceAdd, Int.reduceSub, Int.reduceNeg, Int.reduceToNat, Int.reduceEq, reduceCtorEq, norm_cons, norm_nil, normB, pOwn, pSel, gcS, reach, addN, getO, live, gcH, h1, get_some hi, encI, x448a1n, wrap_succ (i := i) (by omega), ih (i + 1) (by omega), drop_cons hi, posI]
    by_cases h2 : v = l[i] <;> simp [h2]

theorem call448 (v : Int) (l : List Int) (hl : l.length ≤ 1048576) (X : XHeap) : call XT 448 [.p (.rd 1 (l.map encI)), vI v] X = some (vI (match posI v l 0 with | some k => (k : Int) | none => -1), X) := by
  refine call_pure (F := f448) (args := [.rd 1 (l.map encI), pI v]) T448 rfl rfl ?_
  unfold f448 x448
  have k1 := l448 v l hl l.length 0 (by omega)
  simp only [List.drop_zero, Int.natCast_zero] at k1
  simp only [↓sxP, sxQ, xai, xgo, xop, xG, AOp.touched, oldX, nwX, newX, xo, xput, refX, xbin, xint, loadP, loadX, ofC, xcells, xagg, Nat.blt, Value.oneCell', refsO, okGc, renO, rI, coX, Option.isSome, outS, outT, resX, tupX, lend1, lend0, scalX, xsb, pvX, zeroX, spliceG, xapp, xappP, xrd, eqP1, xstr, zpv, Nat.beq, Nat.ble, ↓reduceIte, Nat.reduceAdd, Nat.reduceLeDiff, Nat.reduceBEq, Nat.reduceEqDiff, Nat.reduceLT, Nat.reduceSub, Nat.reduceMul, Int.reduceLT, Int.reduceLE, Int.reduceAdd, Int.reduceSub, Int.reduceNeg, Int.reduceToNat, Int.reduceEq, reduceCtorEq, norm_cons, norm_nil, normB, pOwn, pSel, gcS, reach, addN, getO, live, gcH, x448a1n, k1]
  cases posI v l 0 <;> simp only [↓sxP, sxQ, xai, xgo, xop, xG, AOp.touched, oldX, nwX, newX, xo, xput, refX, xbin, xint, loadP, loadX, ofC, xcells, xagg, Nat.blt, Value.oneCell', refsO, okGc, renO, rI, coX, Option.isSome, outS, outT, resX, tupX, lend1, lend0, scalX, xsb, pvX, zeroX, spliceG, xapp, xappP, xrd, eqP1, xstr, zpv, Nat.beq, Nat.ble, ↓reduceIte, Nat.reduceAdd, Nat.reduceLeDiff, Nat.reduceBEq, Nat.reduceEqDiff, Nat.reduceLT, Nat.reduceSub, Nat.reduceMul, Int.reduceLT, Int.reduceLE, Int.reduceAdd, Int.reduceSub, Int.reduceNeg, Int.reduceToNat, Int.reduceEq, reduceCtorEq, norm_cons, norm_nil, normB, pOwn, pSel, gcS, reach, addN, getO, live, gcH]

theorem call434 (v : Int) (l : List Int) (hl : l.length ≤ 1048576) (X : XHeap) : call XT 434 [.p (.rd 1 (l.map encI)), vI v] X = some (vB (decide (v ∈ l)), X) := by
  refine call_pure (F := f434) (args := [.rd 1 (l.map encI), pI v]) T434 rfl rfl ?_
  unfold f434 x434
  simp only [↓sxP, sxQ, xai, xgo, xop, xG, AOp.touched, oldX, nwX, newX, xo, xput, refX, xbin, xint, loadP, loadX, ofC, xcells, xagg, Nat.blt, Value.oneCell', refsO, okGc, renO, rI, coX, Option.isSome, outS, outT, resX, tupX, lend1, lend0, scalX, xsb, pvX, zeroX, spliceG, xapp, xappP, xrd, eqP1, xstr, zpv, Nat.beq, Nat.ble, ↓reduceIte, Nat.reduceAdd, Nat.reduceLeDiff, Nat.reduceBEq, Nat.reduceEqDiff, Nat.reduceLT, Nat.reduceSub, Nat.reduceMul, Int.reduceLT, Int.reduceLE, Int.reduceAdd, Int.reduceSub, Int.reduceNeg, Int.reduceToNat, Int.reduceEq, reduceCtorEq, norm_cons, norm_nil, normB, pOwn, pSel, gcS, reach, addN, getO, live, gcH, P448, call448 v l hl]
  have := posI_mem v l 0
  cases h : posI v l 0 with
  | none => simp [h] at this; simp [this]
  | some k => simp [h] at this; simp [this]

theorem l428 (v : Int) (l : List Int) (hl : l.length ≤ 1048576) : ∀ m i : Nat, i + m = l.length →
    lp XT x428a1 x428b1 ⟨[(0, .p (.rd 1 (l.map encI))), (1, vI v), (5, vI i)], [], 0⟩ = if v ∈ l.drop i then some (.ret, ⟨[(4, vB true)], [], 0⟩) else some (.exit 0, ⟨[], [], 0⟩) := by
  intro m
  induction m with
  | zero =>
    intro i h
    have h1 : ¬ (i : Int) < l.length := by omega
    have h2 : l.drop i = [] := List.drop_of_length_le (by omega)
    rw [lp_nx]; conv => lhs; arg 1; unfold x428b1
    simp only [↓sxP, sxQ, xai, xgo, xop, xG, AOp.touched, oldX, nwX, newX, xo, xput, refX, xbin, xint, loadP, loadX, ofC, xcells, xagg, Nat.blt, Value.oneCell', refsO, okGc, renO, rI, coX, Option.isSome, outS, outT, resX, tupX, lend1, lend0, scalX, xsb, pvX, zeroX, spliceG, xapp, xappP, xrd, eqP1, xstr, zpv, Nat.beq, Nat.ble, ↓reduceIte, Nat.reduceAdd, Nat.reduceLeDiff, Nat.reduceBEq, Nat.reduceEqDiff, Nat.reduceLT, Nat.reduceSub, Nat.reduceMul, Int.reduceLT, Int.reduceLE, Int.reduceAdd, Int.reduceSub, Int.reduceNeg, Int.reduceToNat, Int.reduceEq, reduceCtorEq, norm_cons, norm_nil, normB, pOwn, pSel, gcS, reach, addN, getO, live, gcH, h1, h2, List.not_mem_nil]
  | succ m ih =>
    intro i h
    have hi : i < l.length := by omega
    have h1 : (i : Int) < l.length := by omega
    rw [lp_nx]; conv => lhs; arg 1; unfold x428b1
    simp only [↓sxP, sxQ, xai, xgo, xop, xG, AOp.touched, oldX, nwX, newX, xo, xput, refX, xbin, xint, loadP, loadX, ofC, xcells, xagg, Nat.blt, Value.oneCell', refsO, okGc, renO, rI, coX, Option.isSome, outS, outT, resX, tupX, lend1, lend0, scalX, xsb, pvX, zeroX, spliceG, xapp, xappP, xrd, eqP1, xstr, zpv, Nat.beq, Nat.ble, ↓reduceIte, Nat.reduceAdd, Nat.reduceLeDiff, Nat.reduceBEq, Nat.reduceEqDiff, Nat.reduceLT, Nat.reduceSub, Nat.reduceMul, Int.reduceLT, Int.reduceLE, Int.reduceAdd, Int.reduceSub, Int.reduceNeg, Int.reduceToNat, Int.reduceEq, reduceCtorEq, norm_cons, norm_nil, normB, pOwn, pSel, gcS, reach, addN, getO, live, gcH, h1, get_some hi, encI, x428a1n, wrap_succ (i := i) (by omega), ih (i + 1) (by omega), drop_cons hi, List.mem_cons]
    by_cases h2 : l[i] = v
    · simp [h2]
    · simp [h2, Ne.symm h2]

theorem call428 (v : Int) (l : List Int) (hl : l.length ≤ 1048576) (X : XHeap) : call XT 428 [.p (.rd 1 (l.map encI)), vI v] X = some (vB (decide (v ∈ l)), X) := by
  refine call_pure (F := f428) (args := [.rd 1 (l.map encI), pI v]) T428 rfl rfl ?_
  unfold f428 x428
  have k1 := l428 v l hl l.length 0 (by omega)
  simp only [List.drop_zero, Int.natCast_zero] at k1
  simp only [↓sxP, sxQ, xai, xgo, xop, xG, AOp.touched, oldX, nwX, newX, xo, xput, refX, xbin, xint, loadP, loadX, ofC, xcells, xagg, Nat.blt, Value.oneCell', refsO, okGc, renO, rI, coX, Option.isSome, outS, outT, resX, tupX, lend1, lend0, scalX, xsb, pvX, zeroX, spliceG, xapp, xappP, xrd, eqP1, xstr, zpv, Nat.beq, Nat.ble, ↓reduceIte, Nat.reduceAdd, Nat.reduceLeDiff, Nat.reduceBEq, Nat.reduceEqDiff, Nat.reduceLT, Nat.reduceSub, Nat.reduceMul, Int.reduceLT, Int.reduceLE, Int.reduceAdd, Int.reduceSub, Int.reduceNeg, Int.reduceToNat, Int.reduceEq, reduceCtorEq, norm_cons, norm_nil, normB, pOwn, pSel, gcS, reach, addN, getO, live, gcH, x428a1n, k1]
  by_cases h : v ∈ l <;> simp [h, outS, resXs, resX, xlook, frzV, tupX, co, thenX, blkX, outP, norm, pOwn, pSel, gcS, refsE, refsV, reach, addN, okGc, nodupB, renE, ren, pCo, coX, pEl, gcH, run_seq_reg, run_reg, run_normX, optX, run_ret, xops, xai, xgo, xop, okMark, xG, xo, ofC, xput, Nat.beq]

/-- Have two lists a common number? -/
def meet (a b : List Int) : Bool := a.any fun v => decide (v ∈ b)

theorem l431 (a l : List Int) (ha : a.length ≤ 1048576) (hl : l.length ≤ 1048576) : ∀ m i : Nat, i + m = a.length →
    lp XT x431a1 x431b1 ⟨[(0, .p (.rd 1 (a.map encI))), (1, .p (.rd 1 (l.map encI))), (5, vI i)], [], 0⟩ = if meet (a.drop i) l then some (.ret, ⟨[(4, vB true)], [], 0⟩) else some (.exit 0, ⟨[], [], 0⟩) := by
  intro m
  induction m with
  | zero =>
    intro i h
    have h1 : ¬ (i : Int) < a.length := by omega
    have h2 : a.drop i = [] := List.drop_of_length_le (by omega)
    rw [lp_nx]; conv => lhs; arg 1; unfold x431b1
    simp only [↓sxP, sxQ, xai, xgo, xop, xG, AOp.touched, oldX, nwX, newX, xo, xput, refX, xbin, xint, loadP, loadX, ofC, xcells, xagg, Nat.blt, Value.oneCell', refsO, okGc, renO, rI, coX, Option.isSome, outS, outT, resX, tupX, lend1, lend0, scalX, xsb, pvX, zeroX, spliceG, xapp, xappP, xrd, eqP1, xstr, zpv, Nat.beq, Nat.ble, ↓reduceIte, Nat.reduceAdd, Nat.reduceLeDiff, Nat.reduceBEq, Nat.reduceEqDiff, Nat.reduceLT, Nat.reduceSub, Nat.reduceMul, Int.reduceLT, Int.reduceLE, Int.reduceAdd, Int.reduceSub, Int.reduceNeg, Int.reduceToNat, Int.reduceEq, reduceCtorEq, norm_cons, norm_nil, normB, pOwn, pSel, gcS, reach, addN, getO, live, gcH, h1, h2, meet]
  | succ m ih =>
    intro i h
    have hi : i < a.length := by omega
    have h1 : (i : Int) < a.length := by omega
    rw [lp_nx]; conv => lhs; arg 1; unfold x431b1
    simp only [↓sxP, sxQ, xai, xgo, xop, xG, AOp.touched, oldX, nwX, newX, xo, xput, refX, xbin, xint, loadP, loadX, ofC, xcells, xagg, Nat.blt, Value.oneCell', refsO, okGc, renO, rI, coX, Option.isSome, outS, outT, resX, tupX, lend1, lend0, scalX, xsb, pvX, zeroX, spliceG, xapp, xappP, xrd, eqP1, xstr, zpv, Nat.beq, Nat.ble, ↓reduceIte, Nat.reduceAdd, Nat.reduceLeDiff, Nat.reduceBEq, Nat.reduceEqDiff, Nat.reduceLT, Nat.reduceSub, Nat.reduceMul, Int.reduceLT, Int.reduceLE, Int.reduceAdd, Int.reduceSub, Int.reduceNeg, Int.reduceToNat, Int.reduceEq, reduceCtorEq, norm_cons, norm_nil, normB, pOwn, pSel, gcS, reach, addN, getO, live, gcH, h1, get_some hi, encI, x431a1n, wrap_succ (i := i) (by omega), ih (i + 1) (by omega), drop_cons hi, P428, call428 _ l hl, meet]
    by_cases h2 : a[i] ∈ l <;> simp [h2]

theorem call431 (a l : List Int) (ha : a.length ≤ 1048576) (hl : l.length ≤ 1048576) (X : XHeap) : call XT 431 [.p (.rd 1 (a.map encI)), .p (.rd 1 (l.map encI))] X = some (vB (meet a l), X) := by
  refine call_pure (F := f431) (args := [.rd 1 (a.map encI), .rd 1 (l.map encI)]) T431 rfl rfl ?_
  unfold f431 x431
  have k1 := l431 a l ha hl a.length 0 (by omega)
  simp only [List.drop_zero, Int.natCast_zero] at k1
  simp only [↓sxP, sxQ, xai, xgo, xop, xG, AOp.touched, oldX, nwX, newX, xo, xput, refX, xbin, xint, loadP, loadX, ofC, xcells, xagg, Nat.blt, Value.oneCell', refsO, okGc, renO, rI, coX, Option.isSome, outS, outT, resX, tupX, lend1, lend0, scalX, xsb, pvX, zeroX, spliceG, xapp, xappP, xrd, eqP1, xstr, zpv, Nat.beq, Nat.ble, ↓reduceIte, Nat.reduceAdd, Nat.reduceLeDiff, Nat.reduceBEq, Nat.reduceEqDiff, Nat.reduceLT, Nat.reduceSub, Nat.reduceMul, Int.reduceLT, Int.reduceLE, Int.reduceAdd, Int.reduceSub, Int.reduceNeg, Int.reduceToNat, Int.reduceEq, reduceCtorEq, norm_cons, norm_nil, normB, pOwn, pSel, gcS, reach, addN, getO, live, gcH, x431a1n, k1]
  by_cases h : meet a l = true
  · simp only [↓sxP, sxQ, xai, xgo, xop, xG, AOp.touched, oldX, nwX, newX, xo, xput, refX, xbin, xint, loadP, loadX, ofC, xcells, xagg, Nat.blt, Value.oneCell', refsO, okGc, renO, rI, coX, Option.isSome, outS, outT, resX, tupX, lend1, lend0, scalX, xsb, pvX, zeroX, spliceG, xapp, xappP, xrd, eqP1, xstr, zpv, Nat.beq, Nat.ble, ↓reduceIte, Nat.reduceAdd, Nat.reduceLeDiff, Nat.reduceBEq, Nat.reduceEqDiff, Nat.reduceLT, Nat.reduceSub, Nat.reduceMul, Int.reduceLT, Int.reduceLE, Int.reduceAdd, Int.reduceSub, Int.reduceNeg, Int.reduceToNat, Int.reduceEq, reduceCtorEq, norm_cons, norm_nil, normB, pOwn, pSel, gcS, reach, addN, getO, live, gcH, h]
  · have h' : meet a l = false := by simpa using h
    simp only [↓sxP, sxQ, xai, xgo, xop, xG, AOp.touched, oldX, nwX, newX, xo, xput, refX, xbin, xint, loadP, loadX, ofC, xcells, xagg, Nat.blt, Value.oneCell', refsO, okGc, renO, rI, coX, Option.isSome, outS, outT, resX, tupX, lend1, lend0, scalX, xsb, pvX, zeroX, spliceG, xapp, xappP, xrd, eqP1, xstr, zpv, Nat.beq, Nat.ble, ↓reduceIte, Nat.reduceAdd, Nat.reduceLeDiff, Nat.reduceBEq, Nat.reduceEqDiff, Nat.reduceLT, Nat.reduceSub, Nat.reduceMul, Int.reduceLT, Int.reduceLE, Int.reduceAdd, Int.reduceSub, Int.reduceNeg, Int.reduceToNat, Int.reduceEq, reduceCtorEq, norm_cons, norm_nil, normB, pOwn, pSel, gcS, reach, addN, getO, live, gcH, h']

theorem l410 (w : List Int) (e : List (List Int)) (l : List Int) (hl : l.length ≤ 1048576) (he : e.length ≤ 1048576) (hm : ∀ a ∈ e, a.length ≤ 1048576) : ∀ m i : Nat, i + m = e.length →
    lp XT x410a1 x410b1 ⟨[(1, .p (.rd 1 (l.map encI))), (2, .ptr 0 0 0), (5, vI i)], [some (.mx 2 [[.p (.rd 1 (w.map encI)), .p (.rd 1 (e.map fun l => [PV.rd 1 (l.map encI)]))]])], 0⟩ = if (e.drop i).all (fun a => meet a l) then some (.exit 0, ⟨[], [], 0⟩) else some (.ret, ⟨[(4, vB false)], [], 0⟩) := by
  intro m
  induction m with
  | zero =>
    intro i h
    have h1 : ¬ (i : Int) < e.length := by omega
    have h2 : e.drop i = [] := List.drop_of_length_le (by omega)
    rw [lp_nx]; conv => lhs; arg 1; unfold x410b1
    simp only [↓sxP, sxQ, xai, xgo, xop, xG, AOp.touched, oldX, nwX, newX, xo, xput, refX, xbin, xint, loadP, loadX, ofC, xcells, xagg, Nat.blt, Value.oneCell', refsO, okGc, renO, rI, coX, Option.isSome, outS, outT, resX, tupX, lend1, lend0, scalX, xsb, pvX, zeroX, spliceG, xapp, xappP, xrd, eqP1, xstr, zpv, Nat.beq, Nat.ble, ↓reduceIte, Nat.reduceAdd, Nat.reduceLeDiff, Nat.reduceBEq, Nat.reduceEqDiff, Nat.reduceLT, Nat.reduceSub, Nat.reduceMul, Int.reduceLT, Int.reduceLE, Int.reduceAdd, Int.reduceSub, Int.reduceNeg, Int.reduceToNat, Int.reduceEq, reduceCtorEq, norm_cons, norm_nil, normB, pOwn, pSel, gcS, reach, addN, getO, live, gcH, h1, h2]
  | succ m ih =>
    intro i h
    have hi : i < e.length := by omega
    have h1 : (i : Int) < e.length := by omega
    have hc := call431 e[i] l (hm _ (List.getElem_mem hi)) hl
    rw [lp_nx]; conv => lhs; arg 1; unfold x410b1
    simp only [↓sxP, sxQ, xai, xgo, xop, xG, AOp.touched, oldX, nwX, newX, xo, xput, refX, xbin, xint, loadP, loadX, ofC, xcells, xagg, Nat.blt, Value.oneCell', refsO, okGc, renO, rI, coX, Option.isSome, outS, outT, resX, tupX, lend1, lend0, scalX, xsb, pvX, zeroX, spliceG, xapp, xappP, xrd, eqP1, xstr, zpv, Nat.beq, Nat.ble, ↓reduceIte, Nat.reduceAdd, Nat.reduceLeDiff, Nat.reduceBEq, Nat.reduceEqDiff, Nat.reduceLT, Nat.reduceSub, Nat.reduceMul, Int.reduceLT, Int.reduceLE, Int.reduceAdd, Int.reduceSub, Int.reduceNeg, Int.reduceToNat, Int.reduceEq, reduceCtorEq, norm_cons, norm_nil, normB, pOwn, pSel, gcS, reach, addN, getO, live, gcH, h1, get_some hi, x410a1n, wrap_succ (i := i) (by omega), ih (i + 1) (by omega), drop_cons hi, P431, hc]
    by_cases h2 : meet e[i] l = true
    · simp [h2]
    · have h2' : meet e[i] l = false := by simpa using h2
      simp [h2']

def hitsI (e : List (List Int)) (l : List Int) : Bool := e.all fun a => meet a l

theorem call410 (w : List Int) (e : List (List Int)) (l : List Int) (hl : l.length ≤ 1048576) (he : e.length ≤ 1048576) (hm : ∀ a ∈ e, a.length ≤ 1048576) (X : XHeap) : call XT 410 [.p (PV.agg [.rd 1 (w.map encI), .rd 1 (e.map fun l => [PV.rd 1 (l.map encI)])]), .p (.rd 1 (l.map encI))] X = some (vB (hitsI e l), X) := by
  refine call_pure (F := f410) (args := [PV.agg [.rd 1 (w.map encI), .rd 1 (e.map fun l => [PV.rd 1 (l.map encI)])], .rd 1 (l.map encI)]) T410 rfl rfl ?_
  unfold f410 x410
  have k1 := l410 w e l hl he hm e.length 0 (by omega)
  simp only [List.drop_zero, Int.natCast_zero] at k1
  simp only [↓sxP, sxQ, xai, xgo, xop, xG, AOp.touched, oldX, nwX, newX, xo, xput, refX, xbin, xint, loadP, loadX, ofC, xcells, xagg, Nat.blt, Value.oneCell', refsO, okGc, renO, rI, coX, Option.isSome, outS, outT, resX, tupX, lend1, lend0, scalX, xsb, pvX, zeroX, spliceG, xapp, xappP, xrd, eqP1, xstr, zpv, Nat.beq, Nat.ble, ↓reduceIte, Nat.reduceAdd, Nat.reduceLeDiff, Nat.reduceBEq, Nat.reduceEqDiff, Nat.reduceLT, Nat.reduceSub, Nat.reduceMul, Int.reduceLT, Int.reduceLE, Int.reduceAdd, Int.reduceSub, Int.reduceNeg, Int.reduceToNat, Int.reduceEq, reduceCtorEq, norm_cons, norm_nil, normB, pOwn, pSel, gcS, reach, addN, getO, live, gcH, maxEl, x410a1n, k1]
  by_cases h : (e.all fun a => meet a l) = true
  · simp only [↓sxP, sxQ, xai, xgo, xop, xG, AOp.touched, oldX, nwX, newX, xo, xput, refX, xbin, xint, loadP, loadX, ofC, xcells, xagg, Nat.blt, Value.oneCell', refsO, okGc, renO, rI, coX, Option.isSome, outS, outT, resX, tupX, lend1, lend0, scalX, xsb, pvX, zeroX, spliceG, xapp, xappP, xrd, eqP1, xstr, zpv, Nat.beq, Nat.ble, ↓reduceIte, Nat.reduceAdd, Nat.reduceLeDiff, Nat.reduceBEq, Nat.reduceEqDiff, Nat.reduceLT, Nat.reduceSub, Nat.reduceMul, Int.reduceLT, Int.reduceLE, Int.reduceAdd, Int.reduceSub, Int.reduceNeg, Int.reduceToNat, Int.reduceEq, reduceCtorEq, norm_cons, norm_nil, normB, pOwn, pSel, gcS, reach, addN, getO, live, gcH, h, hitsI]
  · have h' : (e.all fun a => meet a l) = false := by simpa using h
    simp only [↓sxP, sxQ, xai, xgo, xop, xG, AOp.touched, oldX, nwX, newX, xo, xput, refX, xbin, xint, loadP, loadX, ofC, xcells, xagg, Nat.blt, Value.oneCell', refsO, okGc, renO, rI, coX, Option.isSome, outS, outT, resX, tupX, lend1, lend0, scalX, xsb, pvX, zeroX, spliceG, xapp, xappP, xrd, eqP1, xstr, zpv, Nat.beq, Nat.ble, ↓reduceIte, Nat.reduceAdd, Nat.reduceLeDiff, Nat.reduceBEq, Nat.reduceEqDiff, Nat.reduceLT, Nat.reduceSub, Nat.reduceMul, Int.reduceLT, Int.reduceLE, Int.reduceAdd, Int.reduceSub, Int.reduceNeg, Int.reduceToNat, Int.reduceEq, reduceCtorEq, norm_cons, norm_nil, normB, pOwn, pSel, gcS, reach, addN, getO, live, gcH, h', hitsI]

/-! Functions that are handed a function -/

theorem xcall_imp {g : Nat} (h : pfT XT g = false) (sh : List Sh) (args : List XV) (X : XHeap) : xcall (run XT) XT g sh args X = call XT g (coXL sh args) X := by
  rw [xcall_run, h, cond_false]

/-- 'IndexFunc' at numbers: 'p' is what the function answers. -/
theorem l442 (l : List Int) (hl : l.length ≤ 1048576) (f : Nat) (cs : List XV) (X : XHeap) (hX : closedX X = true) (hcs : (refsL cs).all (live X) = true) (p : Int → Bool)
    (hp : ∀ v ∈ l, xdyn (run XT) XT f [] ([vI v] ++ cs) X = some (vB (p v), X)) : ∀ m i : Nat, i + m = l.length →
    lp XT x442a1 x442b1 ⟨[(0, .p (.rd 1 (l.map encI))), (1, .clo f cs), (7, vI l.length), (8, vI i)], X, X.length⟩ = match (l.drop i).findIdx? p with | some k => some (.ret, ⟨[(4, vI (i + k : Nat))], X, X.length⟩) | none => some (.exit 0, ⟨[], X, X.length⟩) := by
  intro m
  have hn := norm_rules hX
  induction m with
  | zero =>
    intro i h
    have h1 : ¬ (i : Int) < l.length := by omega
    have h2 : l.drop i = [] := List.drop_of_length_le (by omega)
    rw [lp_nx]; conv => lhs; arg 1; unfold x442b1
    simp only [↓sxP, sxQ, xai, xgo, xop, xG, AOp.touched, oldX, nwX, newX, xo, xput, refX, xbin, xint, loadP, loadX, ofC, xcells, xagg, Nat.blt, Value.oneCell', refsO, okGc, renO, rI, coX, Option.isSome, outS, outT, resX, tupX, lend1, lend0, scalX, xsb, pvX, zeroX, spliceG, xapp, xappP, xrd, eqP1, xstr, zpv, Nat.beq, Nat.ble, ↓reduceIte, Nat.reduceAdd, Nat.reduceLeDiff, Nat.reduceBEq, Nat.reduceEqDiff, Nat.reduceLT, Nat.reduceSub, Nat.reduceMul, Int.reduceLT, Int.reduceLE, Int.reduceAdd, Int.reduceSub, Int.reduceNeg, Int.reduceToNat, Int.reduceEq, reduceCtorEq, normC, selK, gcH, List.all_append, ble_self, h1, h2, hn, List.findIdx?_nil]
  | succ m ih =>
    intro i h
    have hi : i < l.length := by omega
    have h1 : (i : Int) < l.length := by omega
    have hpi := hp l[i] (List.getElem_mem hi)
    simp only [List.cons_append, List.nil_append] at hpi
    rw [lp_nx]; conv => lhs; arg 1; unfold x442b1
    simp only [↓sxP, sxQ, xai, xgo, xop, xG, AOp.touched, oldX, nwX, newX, xo, xput, refX, xbin, xint, loadP, loadX, ofC, xcells, xagg, Nat.blt, Value.oneCell', refsO, okGc, renO, rI, coX, Option.isSome, outS, outT, resX, tupX, lend1, lend0, scalX, xsb, pvX, zeroX, spliceG, xapp, xappP, xrd, eqP1, xstr, zpv, Nat.beq, Nat.ble, ↓reduceIte, Nat.reduceAdd, Nat.reduceLeDiff, Nat.reduceBEq, Nat.reduceEqDiff, Nat.reduceLT, Nat.reduceSub, Nat.reduceMul, Int.reduceLT, Int.reduceLE, Int.reduceAdd, Int.reduceSub, Int.reduceNeg, Int.reduceToNat, Int.reduceEq, reduceCtorEq, normC, selK, gcH, List.all_append, ble_self, h1, get_some hi, encI, x442a1n, wrap_succ (i := i) (by omega), drop_cons hi, hpi, hn, hcs, List.findIdx?_cons]
    cases hpv : p l[i] with
    | true => simp only [↓sxP, sxQ, xai, xgo, xop, xG, AOp.touched, oldX, nwX, newX, xo, xput, refX, xbin, xint, loadP, loadX, ofC, xcells, xagg, Nat.blt, Value.oneCell', refsO, okGc, renO, rI, coX, Option.isSome, outS, outT, resX, tupX, lend1, lend0, scalX, xsb, pvX, zeroX, spliceG, xapp, xappP, xrd, eqP1, xstr, zpv, Nat.beq, Nat.ble, ↓reduceIte, Nat.reduceAdd, Nat.reduceLeDiff, Nat.reduceBEq, Nat.reduceEqDiff, Nat.reduceLT, Nat.reduceSub, Nat.reduceMul, Int.reduceLT, Int.reduceLE, Int.reduceAdd, Int.reduceSub, Int.reduceNeg, Int.reduceToNat, Int.reduceEq, reduceCtorEq, normC, selK, gcH, List.all_append, ble_self, hn]
    | false =>
      simp only [↓sxP, sxQ, xai, xgo, xop, xG, AOp.touched, oldX, nwX, newX, xo, xput, refX, xbin, xint, loadP, loadX, ofC, xcells, xagg, Nat.blt, Value.oneCell', refsO, okGc, renO, rI, coX, Option.isSome, outS, outT, resX, tupX, lend1, lend0, scalX, xsb, pvX, zeroX, spliceG, xapp, xappP, xrd, eqP1, xstr, zpv, Nat.beq, Nat.ble, ↓reduceIte, Nat.reduceAdd, Nat.reduceLeDiff, Nat.reduceBEq, Nat.reduceEqDiff, Nat.reduceLT, Nat.reduceSub, Nat.reduceMul, Int.reduceLT, Int.reduceLE, Int.reduceAdd, Int.reduceSub, Int.reduceNeg, Int.reduceToNat, Int.reduceEq, reduceCtorEq, normC, selK, gcH, List.all_append, ble_self, hn, hcs, x442a1n, wrap_succ (i := i) (by omega), ih (i + 1) (by omega)]
      cases (l.drop (i + 1)).findIdx? p with
      | none => rfl
      | some k => simp only [Option.map_some]; rw [show i + 1 + k = i + (k + 1) by omega]

theorem call442 (l : List Int) (hl : l.length ≤ 1048576) (f : Nat) (cs : List XV) (X : XHeap) (hX : closedX X = true) (hcs : (refsL cs).all (live X) = true) (p : Int → Bool)
    (hp : ∀ v ∈ l, xdyn (run XT) XT f [] ([vI v] ++ cs) X = some (vB (p v), X)) : call XT 442 [.p (.rd 1 (l.map encI)), .clo f cs] X = some (vI (match l.findIdx? p with | some k => (k : Int) | none => -1), X) := by
  refine call_impure (F := f442) T442 rfl rfl ?_
  unfold f442 x442
  have k1 := l442 l hl f cs X hX hcs p hp l.length 0 (by omega)
  have hn := norm_rules hX
  simp only [List.drop_zero, Int.natCast_zero, Nat.zero_add] at k1
  simp only [↓sxP, sxQ, xai, xgo, xop, xG, AOp.touched, oldX, nwX, newX, xo, xput, refX, xbin, xint, loadP, loadX, ofC, xcells, xagg, Nat.blt, Value.oneCell', refsO, okGc, renO, rI, coX, Option.isSome, outS, outT, resX, tupX, lend1, lend0, scalX, xsb, pvX, zeroX, spliceG, xapp, xappP, xrd, eqP1, xstr, zpv, Nat.beq, Nat.ble, ↓reduceIte, Nat.reduceAdd, Nat.reduceLeDiff, Nat.reduceBEq, Nat.reduceEqDiff, Nat.reduceLT, Nat.reduceSub, Nat.reduceMul, Int.reduceLT, Int.reduceLE, Int.reduceAdd, Int.reduceSub, Int.reduceNeg, Int.reduceToNat, Int.reduceEq, reduceCtorEq, normC, selK, gcH, List.all_append, ble_self, x442a1n, hn, hcs, k1]
  cases l.findIdx? p with
  | none => simp only [↓sxP, sxQ, xai, xgo, xop, xG, AOp.touched, oldX, nwX, newX, xo, xput, refX, xbin, xint, loadP, loadX, ofC, xcells, xagg, Nat.blt, Value.oneCell', refsO, okGc, renO, rI, coX, Option.isSome, outS, outT, resX, tupX, lend1, lend0, scalX, xsb, pvX, zeroX, spliceG, xapp, xappP, xrd, eqP1, xstr, zpv, Nat.beq, Nat.ble, ↓reduceIte, Nat.reduceAdd, Nat.reduceLeDiff, Nat.reduceBEq, Nat.reduceEqDiff, Nat.reduceLT, Nat.reduceSub, Nat.reduceMul, Int.reduceLT, Int.reduceLE, Int.reduceAdd, Int.reduceSub, Int.reduceNeg, Int.reduceToNat, Int.reduceEq, reduceCtorEq, normC, selK, gcH, List.all_append, ble_self, hn]
  | some k => simp only [↓sxP, sxQ, xai, xgo, xop, xG, AOp.touched, oldX, nwX, newX, xo, xput, refX, xbin, xint, loadP, loadX, ofC, xcells, xagg, Nat.blt, Value.oneCell', refsO, okGc, renO, rI, coX, Option.isSome, outS, outT, resX, tupX, lend1, lend0, scalX, xsb, pvX, zeroX, spliceG, xapp, xappP, xrd, eqP1, xstr, zpv, Nat.beq, Nat.ble, ↓reduceIte, Nat.reduceAdd, Nat.reduceLeDiff, Nat.reduceBEq, Nat.reduceEqDiff, Nat.reduceLT, Nat.reduceSub, Nat.reduceMul, Int.reduceLT, Int.reduceLE, Int.reduceAdd, Int.reduceSub, Int.reduceNeg, Int.reduceToNat, Int.reduceEq, reduceCtorEq, normC, selK, gcH, List.all_append, ble_self, hn]

theorem call426 (l : List Int) (hl : l.length ≤ 1048576) (f : Nat) (cs : List XV) (X : XHeap) (hX : closedX X = true) (hcs : (refsL cs).all (live X) = true) (p : Int → Bool)
    (hp : ∀ v ∈ l, xdyn (run XT) XT f [] ([vI v] ++ cs) X = some (vB (p v), X)) : call XT 426 [.p (.rd 1 (l.map encI)), .clo f cs] X = some (vB (l.any p), X) := by
  refine call_impure (F := f426) T426 rfl rfl ?_
  unfold f426 x426
  have hn := norm_rules hX
  simp only [↓sxP, sxQ, xai, xgo, xop, xG, AOp.touched, oldX, nwX, newX, xo, xput, refX, xbin, xint, loadP, loadX, ofC, xcells, xagg, Nat.blt, Value.oneCell', refsO, okGc, renO, rI, coX, Option.isSome, outS, outT, resX, tupX, lend1, lend0, scalX, xsb, pvX, zeroX, spliceG, xapp, xappP, xrd, eqP1, xstr, zpv, Nat.beq, Nat.ble, ↓reduceIte, Nat.reduceAdd, Nat.reduceLeDiff, Nat.reduceBEq, Nat.reduceEqDiff, Nat.reduceLT, Nat.reduceSub, Nat.reduceMul, Int.reduceLT, Int.reduceLE, Int.reduceAdd, Int.reduceSub, Int.reduceNeg, Int.reduceToNat, Int.reduceEq, reduceCtorEq, normC, selK, gcH, List.all_append, ble_self, P442, call442 l hl f cs X hX hcs p hp, hn]
  cases hf : l.findIdx? p with
  | none =>
    have : l.any p = false := by
      have := List.findIdx?_eq_none_iff.1 hf
      simp only [List.any_eq_false]; intro x hx; simp [this x hx]
    simp [this]
  | some k =>
    have : l.any p = true := by
      have := List.findIdx?_isSome (p := p) (xs := l)
      rw [hf] at this; simpa using this.symm
    simp [this]

/-- The same at lists of numbers. -/
theorem l449 (e : List (List Int)) (he : e.length ≤ 1048576) (f : Nat) (cs : List XV) (X : XHeap) (hX : closedX X = true) (hcs : (refsL cs).all (live X) = true) (p : List Int → Bool)
    (hp : ∀ a ∈ e, xdyn (run XT) XT f [.sl 1 []] ([.p (.rd 1 (a.map encI))] ++ cs) X = some (vB (p a), X)) : ∀ m i : Nat, i + m = e.length →
    lp XT x449a1 x449b1 ⟨[(0, .p (.rd 1 (e.map fun l => [PV.rd 1 (l.map encI)]))), (1, .clo f cs), (7, vI e.length), (8, vI i)], X, X.length⟩ = match (e.drop i).findIdx? p with | some k => some (.ret, ⟨[(4, vI (i + k : Nat))], X, X.length⟩) | none => some (.exit 0, ⟨[], X, X.length⟩) := by
  intro m
  have hn := norm_rules hX
  induction m with
  | zero =>
    intro i h
    have h1 : ¬ (i : Int) < e.length := by omega
    have h2 : e.drop i = [] := List.drop_of_length_le (by omega)
    rw [lp_nx]; conv => lhs; arg 1; unfold x449b1
    simp only [↓sxP, sxQ, xai, xgo, xop, xG, AOp.touched, oldX, nwX, newX, xo, xput, refX, xbin, xint, loadP, loadX, ofC, xcells, xagg, Nat.blt, Value.oneCell', refsO, okGc, renO, rI, coX, Option.isSome, outS, outT, resX, tupX, lend1, lend0, scalX, xsb, pvX, zeroX, spliceG, xapp, xappP, xrd, eqP1, xstr, zpv, Nat.beq, Nat.ble, ↓reduceIte, Nat.reduceAdd, Nat.reduceLeDiff, Nat.reduceBEq, Nat.reduceEqDiff, Nat.reduceLT, Nat.reduceSub, Nat.reduceMul, Int.reduceLT, Int.reduceLE, Int.reduceAdd, Int.reduceSub, Int.reduceNeg, Int.reduceToNat, Int.reduceEq, reduceCtorEq, normC, selK, gcH, List.all_append, ble_self, h1, h2, hn, List.findIdx?_nil]
  | succ m ih =>
    intro i h
    have hi : i < e.length := by omega
    have h1 : (i : Int) < e.length := by omega
    have hpi := hp e[i] (List.getElem_mem hi)
    simp only [List.cons_append, List.nil_append] at hpi
    rw [lp_nx]; conv => lhs; arg 1; unfold x449b1
    simp only [↓sxP, sxQ, xai, xgo, xop, xG, AOp.touched, oldX, nwX, newX, xo, xput, refX, xbin, xint, loadP, loadX, ofC, xcells, xagg, Nat.blt, Value.oneCell', refsO, okGc, renO, rI, coX, Option.isSome, outS, outT, resX, tupX, lend1, lend0, scalX, xsb, pvX, zeroX, spliceG, xapp, xappP, xrd, eqP1, xstr, zpv, Nat.beq, Nat.ble, ↓reduceIte, Nat.reduceAdd, Nat.reduceLeDiff, Nat.reduceBEq, Nat.reduceEqDiff, Nat.reduceLT, Nat.reduceSub, Nat.reduceMul, Int.reduceLT, Int.reduceLE, Int.reduceAdd, Int.reduceSub, Int.reduceNeg, Int.reduceToNat, Int.reduceEq, reduceCtorEq, normC, selK, gcH, List.all_append, ble_self, h1, get_some hi, x449a1n, wrap_succ (i := i) (by omega), drop_cons hi, hpi, hn, hcs, List.findIdx?_cons]
    cases hpv : p e[i] with
    | true => simp only [↓sxP, sxQ, xai, xgo, xop, xG, AOp.touched, oldX, nwX, newX, xo, xput, refX, xbin, xint, loadP, loadX, ofC, xcells, xagg, Nat.blt, Value.oneCell', refsO, okGc, renO, rI, coX, Option.isSome, outS, outT, resX, tupX, lend1, lend0, scalX, xsb, pvX, zeroX, spliceG, xapp, xappP, xrd, eqP1, xstr, zpv, Nat.beq, Nat.ble, ↓reduceIte, Nat.reduceAdd, Nat.reduceLeDiff, Nat.reduceBEq, Nat.reduceEqDiff, Nat.reduceLT, Nat.reduceSub, Nat.reduceMul, Int.reduceLT, Int.reduceLE, Int.reduceAdd, Int.reduceSub, Int.reduceNeg, Int.reduceToNat, Int.reduceEq, reduceCtorEq, normC, selK, gcH, List.all_append, ble_self, hn]
    | false =>
      simp only [↓sxP, sxQ, xai, xgo, xop, xG, AOp.touched, oldX, nwX, newX, xo, xput, refX, xbin, xint, loadP, loadX, ofC, xcells, xagg, Nat.blt, Value.oneCell', refsO, okGc, renO, rI, coX, Option.isSome, outS, outT, resX, tupX, lend1, lend0, scalX, xsb, pvX, zeroX, spliceG, xapp, xappP, xrd, eqP1, xstr, zpv, Nat.beq, Nat.ble, ↓reduceIte, Nat.reduceAdd, Nat.reduceLeDiff, Nat.reduceBEq, Nat.reduceEqDiff, Nat.reduceLT, Nat.reduceSub, Nat.reduceMul, Int.reduceLT, Int.reduceLE, Int.reduceAdd, Int.reduceSub, Int.reduceNeg, Int.reduceToNat, Int.reduceEq, reduceCtorEq, normC, selK, gcH, List.all_append, ble_self, hn, hcs, x449a1n, wrap_succ (i := i) (by omega), ih (i + 1) (by omega)]
      cases (e.drop (i + 1)).findIdx? p with
      | none => rfl
      | some k => simp only [Option.map_some]; rw [show i + 1 + k = i + (k + 1) by omega]

theorem call449 (e : List (List Int)) (he : e.length ≤ 1048576) (f : Nat) (cs : List XV) (X : XHeap) (hX : closedX X = true) (hcs : (refsL cs).all (live X) = true) (p : List Int → Bool)
    (hp : ∀ a ∈ e, xdyn (run XT) XT f [.sl 1 []] ([.p (.rd 1 (a.map encI))] ++ cs) X = some (vB (p a), X)) : call XT 449 [.p (.rd 1 (e.map fun l => [PV.rd 1 (l.map encI)])), .clo f cs] X = some (vI (match e.findIdx? p with | some k => (k : Int) | none => -1), X) := by
  refine call_impure (F := f449) T449 rfl rfl ?_
  unfold f449 x449
  have k1 := l449 e he f cs X hX hcs p hp e.length 0 (by omega)
  have hn := norm_rules hX
  simp only [List.drop_zero, Int.natCast_zero, Nat.zero_add] at k1
  simp only [↓sxP, sxQ, xai, xgo, xop, xG, AOp.touched, oldX, nwX, newX, xo, xput, refX, xbin, xint, loadP, loadX, ofC, xcells, xagg, Nat.blt, Value.oneCell', refsO, okGc, renO, rI, coX, Option.isSome, outS, outT, resX, tupX, lend1, lend0, scalX, xsb, pvX, zeroX, spliceG, xapp, xappP, xrd, eqP1, xstr, zpv, Nat.beq, Nat.ble, ↓reduceIte, Nat.reduceAdd, Nat.reduceLeDiff, Nat.reduceBEq, Nat.reduceEqDiff, Nat.reduceLT, Nat.reduceSub, Nat.reduceMul, Int.reduceLT, Int.reduceLE, Int.reduceAdd, Int.reduceSub, Int.reduceNeg, Int.reduceToNat, Int.reduceEq, reduceCtorEq, normC, selK, gcH, List.all_append, ble_self, x449a1n, hn, hcs, k1]
  cases e.findIdx? p with
  | none => simp only [↓sxP, sxQ, xai, xgo, xop, xG, AOp.touched, oldX, nwX, newX, xo, xput, refX, xbin, xint, loadP, loadX, ofC, xcells, xagg, Nat.blt, Value.oneCell', refsO, okGc, renO, rI, coX, Option.isSome, outS, outT, resX, tupX, lend1, lend0, scalX, xsb, pvX, zeroX, spliceG, xapp, xappP, xrd, eqP1, xstr, zpv, Nat.beq, Nat.ble, ↓reduceIte, Nat.reduceAdd, Nat.reduceLeDiff, Nat.reduceBEq, Nat.reduceEqDiff, Nat.reduceLT, Nat.reduceSub, Nat.reduceMul, Int.reduceLT, Int.reduceLE, Int.reduceAdd, Int.reduceSub, Int.reduceNeg, Int.reduceToNat, Int.reduceEq, reduceCtorEq, normC, selK, gcH, List.all_append, ble_self, hn]
  | some k => simp only [↓sxP, sxQ, xai, xgo, xop, xG, AOp.touched, oldX, nwX, newX, xo, xput, refX, xbin, xint, loadP, loadX, ofC, xcells, xagg, Nat.blt, Value.oneCell', refsO, okGc, renO, rI, coX, Option.isSome, outS, outT, resX, tupX, lend1, lend0, scalX, xsb, pvX, zeroX, spliceG, xapp, xappP, xrd, eqP1, xstr, zpv, Nat.beq, Nat.ble, ↓reduceIte, Nat.reduceAdd, Nat.reduceLeDiff, Nat.reduceBEq, Nat.reduceEqDiff, Nat.reduceLT, Nat.reduceSub, Nat.reduceMul, Int.reduceLT, Int.reduceLE, Int.reduceAdd, Int.reduceSub, Int.reduceNeg, Int.reduceToNat, Int.reduceEq, reduceCtorEq, normC, selK, gcH, List.all_append, ble_self, hn]

theorem any_find {α : Type} (l : List α) (p : α → Bool) : decide (0 ≤ (match l.findIdx? p with | some k => (k : Int) | none => -1)) = l.any p := by
  cases hf : l.findIdx? p with
  | none =>
    have : l.any p = false := by
      have := List.findIdx?_eq_none_iff.1 hf
      simp only [List.any_eq_false]; intro x hx; simp [this x hx]
    simp [this]
  | some k =>
    have : l.any p = true := by
      have := List.findIdx?_isSome (p := p) (xs := l)
      rw [hf] at this; simpa using this.symm
    simp [this]

theorem call435 (e : List (List Int)) (he : e.length ≤ 1048576) (f : Nat) (cs : List XV) (X : XHeap) (hX : closedX X = true) (hcs : (refsL cs).all (live X) = true) (p : List Int → Bool)
    (hp : ∀ a ∈ e, xdyn (run XT) XT f [.sl 1 []] ([.p (.rd 1 (a.map encI))] ++ cs) X = some (vB (p a), X)) : call XT 435 [.p (.rd 1 (e.map fun l => [PV.rd 1 (l.map encI)])), .clo f cs] X = some (vB (e.any p), X) := by
  refine call_impure (F := f435) T435 rfl rfl ?_
  unfold f435 x435
  have hn := norm_rules hX
  simp only [↓sxP, sxQ, xai, xgo, xop, xG, AOp.touched, oldX, nwX, newX, xo, xput, refX, xbin, xint, loadP, loadX, ofC, xcells, xagg, Nat.blt, Value.oneCell', refsO, okGc, renO, rI, coX, Option.isSome, outS, outT, resX, tupX, lend1, lend0, scalX, xsb, pvX, zeroX, spliceG, xapp, xappP, xrd, eqP1, xstr, zpv, Nat.beq, Nat.ble, ↓reduceIte, Nat.reduceAdd, Nat.reduceLeDiff, Nat.reduceBEq, Nat.reduceEqDiff, Nat.reduceLT, Nat.reduceSub, Nat.reduceMul, Int.reduceLT, Int.reduceLE, Int.reduceAdd, Int.reduceSub, Int.reduceNeg, Int.reduceToNat, Int.reduceEq, reduceCtorEq, normC, selK, gcH, List.all_append, ble_self, P449, call449 e he f cs X hX hcs p hp, hn, any_find]

theorem clo437 (w : List Int) (e : List (List Int)) (l : List Int) (hl : l.length ≤ 1048576) (v : Int) : call XT 437 [vI v, .ptr 1 0 0] [some (.mx 2 [[.p (.rd 1 (w.map encI)), .p (.rd 1 (e.map fun l => [PV.rd 1 (l.map encI)]))]]), some (.mx 1 [[.p (.rd 1 (l.map encI))]])] = some (vB (decide (v ∈ l)), [some (.mx 2 [[.p (.rd 1 (w.map encI)), .p (.rd 1 (e.map fun l => [PV.rd 1 (l.map encI)]))]]), some (.mx 1 [[.p (.rd 1 (l.map encI))]])]) := by
  refine call_impure (F := f437) T437 rfl rfl ?_
  unfold f437 x437
  simp only [↓sxP, sxQ, xai, xgo, xop, xG, AOp.touched, oldX, nwX, newX, xo, xput, refX, xbin, xint, loadP, loadX, ofC, xcells, xagg, Nat.blt, Value.oneCell', refsO, okGc, renO, rI, coX, Option.isSome, outS, outT, resX, tupX, lend1, lend0, scalX, xsb, pvX, zeroX, spliceG, xapp, xappP, xrd, eqP1, xstr, zpv, Nat.beq, Nat.ble, ↓reduceIte, Nat.reduceAdd, Nat.reduceLeDiff, Nat.reduceBEq, Nat.reduceEqDiff, Nat.reduceLT, Nat.reduceSub, Nat.reduceMul, Int.reduceLT, Int.reduceLE, Int.reduceAdd, Int.reduceSub, Int.reduceNeg, Int.reduceToNat, Int.reduceEq, reduceCtorEq, norm_cons, norm_nil, normB, pOwn, pSel, gcS, reach, addN, getO, live, gcH, P434, call434 v l hl]

theorem clo436 (w : List Int) (e : List (List Int)) (l : List Int) (hl : l.length ≤ 1048576) (a : List Int) (ha : a.length ≤ 1048576) : call XT 436 [.p (.rd 1 (a.map encI)), .ptr 1 0 0] [some (.mx 2 [[.p (.rd 1 (w.map encI)), .p (.rd 1 (e.map fun l => [PV.rd 1 (l.map encI)]))]]), some (.mx 1 [[.p (.rd 1 (l.map encI))]])] = some (vB (!meet a l), [some (.mx 2 [[.p (.rd 1 (w.map encI)), .p (.rd 1 (e.map fun l => [PV.rd 1 (l.map encI)]))]]), some (.mx 1 [[.p (.rd 1 (l.map encI))]])]) := by
  refine call_impure (F := f436) T436 rfl rfl ?_
  unfold f436 x436
  have hc := call426 a ha 437 [.ptr 1 0 0] [some (.mx 2 [[.p (.rd 1 (w.map encI)), .p (.rd 1 (e.map fun l => [PV.rd 1 (l.map encI)]))]]), some (.mx 1 [[.p (.rd 1 (l.map encI))]])] rfl rfl (fun v => decide (v ∈ l)) (fun v _ => by
    show xcall _ _ _ _ _ _ = _
    rw [xcall_imp P437]; exact clo437 w e l hl v)
  simp only [↓sxP, sxQ, xai, xgo, xop, xG, AOp.touched, oldX, nwX, newX, xo, xput, refX, xbin, xint, loadP, loadX, ofC, xcells, xagg, Nat.blt, Value.oneCell', refsO, okGc, renO, rI, coX, Option.isSome, outS, outT, resX, tupX, lend1, lend0, scalX, xsb, pvX, zeroX, spliceG, xapp, xappP, xrd, eqP1, xstr, zpv, Nat.beq, Nat.ble, ↓reduceIte, Nat.reduceAdd, Nat.reduceLeDiff, Nat.reduceBEq, Nat.reduceEqDiff, Nat.reduceLT, Nat.reduceSub, Nat.reduceMul, Int.reduceLT, Int.reduceLE, Int.reduceAdd, Int.reduceSub, Int.reduceNeg, Int.reduceToNat, Int.reduceEq, reduceCtorEq, norm_cons, norm_nil, normB, pOwn, pSel, gcS, reach, addN, getO, live, gcH, P426, hc, meet]

theorem call414 (w : List Int) (e : List (List Int)) (l : List Int) (hl : l.length ≤ 1048576) (he : e.length ≤ 1048576) (hm : ∀ a ∈ e, a.length ≤ 1048576) (X : XHeap) : call XT 414 [.p (PV.agg [.rd 1 (w.map encI), .rd 1 (e.map fun l => [PV.rd 1 (l.map encI)])]), .p (.rd 1 (l.map encI))] X = some (vB (hitsI e l), X) := by
  refine call_pure (F := f414) (args := [PV.agg [.rd 1 (w.map encI), .rd 1 (e.map fun l => [PV.rd 1 (l.map encI)])], .rd 1 (l.map encI)]) T414 rfl rfl ?_
  unfold f414 x414
  have hc := call435 e he 436 [.ptr 1 0 0] [some (.mx 2 [[.p (.rd 1 (w.map encI)), .p (.rd 1 (e.map fun l => [PV.rd 1 (l.map encI)]))]]), some (.mx 1 [[.p (.rd 1 (l.map encI))]])] rfl rfl (fun a => !meet a l) (fun a ha => by
    show xcall _ _ _ _ _ _ = _
    rw [xcall_imp P436]; exact clo436 w e l hl a (hm a ha))
  have h1 : (!e.any fun a => !meet a l) = hitsI e l := by simp [hitsI, List.all_eq_not_any_not]
  simp only [↓sxP, sxQ, xai, xgo, xop, xG, AOp.touched, oldX, nwX, newX, xo, xput, refX, xbin, xint, loadP, loadX, ofC, xcells, xagg, Nat.blt, Value.oneCell', refsO, okGc, renO, rI, coX, Option.isSome, outS, outT, resX, tupX, lend1, lend0, scalX, xsb, pvX, zeroX, spliceG, xapp, xappP, xrd, eqP1, xstr, zpv, Nat.beq, Nat.ble, ↓reduceIte, Nat.reduceAdd, Nat.reduceLeDiff, Nat.reduceBEq, Nat.reduceEqDiff, Nat.reduceLT, Nat.reduceSub, Nat.reduceMul, Int.reduceLT, Int.reduceLE, Int.reduceAdd, Int.reduceSub, Int.reduceNeg, Int.reduceToNat, Int.reduceEq, reduceCtorEq, norm_cons, norm_nil, normB, pOwn, pSel, gcS, reach, addN, getO, live, gcH, maxEl, P435, hc, h1]
end Go.Abs
