/- Valid of chapter 39, the program's and the reference's, computes one and the same. No condition. -/
import Derived.Test.YtgegamaadohibaaCL
import Derived.Test.YtgegamaadohibaaX
import Derived.Test.YtgegamaadohibaaAw
namespace Go.Abs
open Go
set_option linter.unusedSimpArgs false
set_option maxHeartbeats 1000000

def okW (x : Int) : Bool := decide (1 ≤ x) && decide (x ≤ 1000000)
def asc (n : Int) : Int → List Int → Bool
  | _, [] => true
  | last, v :: r => decide (last < v) && decide (v < n) && asc n v r
def okE (n : Int) (l : List Int) : Bool := asc n (-1) l && !l.isEmpty
/-- What 'Valid' answers. -/
def validI (w : List Int) (e : List (List Int)) : Int :=
  if w.length > 200 ∨ e.length > 2000 then 3 else if w.all okW && e.all (okE w.length) then 0 else 1

theorem drop_cons {α : Type} {l : List α} {i : Nat} (h : i < l.length) : l.drop i = l[i] :: l.drop (i + 1) := List.drop_eq_getElem_cons h
theorem get_some {α : Type} {l : List α} {i : Nat} (h : i < l.length) : l[i]? = some l[i] := by simp [h]
theorem wrap_succ {i : Nat} (h : i < 1000000000) : IntKind.i64.wrap ((i : Int) + 1) = ((i + 1 : Nat) : Int) := by rw [wrap64 _ (by omega) (by omega)]; omega

theorem l402_1 (w : List Int) (e : List (List Int)) (hl : w.length ≤ 200) : ∀ m i : Nat, i + m = w.length →
    lp XT x402a1 x402b1 ⟨[(1, .ptr 0 0 0), (3, vI i)], [some (.mx 2 [[.p (.rd 1 (w.map encI)), .p (.rd 1 (e.map fun l => [PV.rd 1 (l.map encI)]))]])], 0⟩ = if (w.drop i).all okW then some (.exit 0, ⟨[(1, .ptr 0 0 0)], [some (.mx 2 [[.p (.rd 1 (w.map encI)), .p (.rd 1 (e.map fun l => [PV.rd 1 (l.map encI)]))]])], 0⟩) else some (.ret, ⟨[(2, vI 1)], [], 0⟩) := by
  intro m
  induction m with
  | zero =>
    intro i h
    have h1 : ¬ (i : Int) < w.length := by omega
    have h2 : w.drop i = [] := List.drop_of_length_le (by omega)
    rw [lp_nx]; conv => lhs; arg 1; unfold x402b1
    simp only [↓sxP, sxQ, xai, xgo, xop, xG, AOp.touched, oldX, nwX, newX, xo, xput, refX, xbin, xint, loadP, loadX, ofC, xcells, xagg, Nat.blt, Value.oneCell', refsO, okGc, renO, rI, coX, Option.isSome, outS, outT, resX, tupX, lend1, lend0, scalX, xsb, pvX, zeroX, spliceG, xapp, xappP, xrd, eqP1, xstr, zpv, Nat.beq, Nat.ble, ↓reduceIte, Nat.reduceAdd, Nat.reduceLeDiff, Nat.reduceBEq, Nat.reduceEqDiff, Nat.reduceLT, Nat.reduceSub, Nat.reduceMul, Int.reduceLT, Int.reduceLE, Int.reduceAdd, Int.reduceSub, Int.reduceNeg, Int.reduceToNat, Int.reduceEq, reduceCtorEq, norm_cons, norm_nil, normB, pOwn, pSel, gcS, reach, addN, getO, live, gcH, h1, h2]
  | succ m ih =>
    intro i h
    have hi : i < w.length := by omega
    have h1 : (i : Int) < w.length := by omega
    rw [lp_nx]; conv => lhs; arg 1; unfold x402b1
    simp only [↓sxP, sxQ, xai, xgo, xop, xG, AOp.touched, oldX, nwX, newX, xo, xput, refX, xbin, xint, loadP, loadX, ofC, xcells, xagg, Nat.blt, Value.oneCell', refsO, okGc, renO, rI, coX, Option.isSome, outS, outT, resX, tupX, lend1, lend0, scalX, xsb, pvX, zeroX, spliceG, xapp, xappP, xrd, eqP1, xstr, zpv, Nat.beq, Nat.ble, ↓reduceIte, Nat.reduceAdd, Nat.reduceLeDiff, Nat.reduceBEq, Nat.reduceEqDiff, Nat.reduceLT, Nat.reduceSub, Nat.reduceMul, Int.reduceLT, Int.reduceLE, Int.reduceAdd, Int.reduceSub, Int.reduceNeg, Int.reduceToNat, Int.reduceEq, reduceCtorEq, norm_cons, norm_nil, normB, pOwn, pSel, gcS, reach, addN, getO, live, gcH, h1, get_some hi, encI, x402a1n, wrap_succ (i := i) (by omega), ih (i + 1) (by omega), drop_cons hi, okW, Bool.and_eq_true, decide_eq_true_eq]
    by_cases h2 : w[i] < 1
    · simp [h2]; omega
    · by_cases h3 : 1000000 < w[i]
      · simp [h2, h3]; omega
      · simp [h2, h3, show 1 ≤ w[i] by omega, show w[i] ≤ 1000000 by omega]

def lastD : Int → List Int → Int
  | x, [] => x
  | _, v :: r => lastD v r

theorem lastD_ge (n : Int) : ∀ (l : List Int) (x : Int), asc n x l = true → x ≤ lastD x l
  | [], x, _ => by simp [lastD]
  | v :: r, x, h => by
    simp only [asc, Bool.and_eq_true, decide_eq_true_eq] at h
    have := lastD_ge n r v h.2
    simp only [lastD]; omega
theorem lastD_neg (n : Int) (l : List Int) (h : asc n (-1) l = true) : (lastD (-1) l < 0) ↔ l = [] := by
  cases l with
  | nil => simp [lastD]
  | cons v r =>
    simp only [asc, Bool.and_eq_true, decide_eq_true_eq] at h
    have := lastD_ge n r v h.2
    simp only [lastD, reduceCtorEq, iff_false]; omega

theorem l402_2 (w : List Int) (e : List (List Int)) (k : Nat) (l : List Int) (hk : e[k]? = some l) (hl : l.length ≤ 1048576) : ∀ m i : Nat, ∀ last : Int, i + m = l.length →
    lp XT x402a2 x402b2 ⟨[(1, .ptr 0 0 0), (4, vI k), (5, vI last), (6, vI i)], [some (.mx 2 [[.p (.rd 1 (w.map encI)), .p (.rd 1 (e.map fun l => [PV.rd 1 (l.map encI)]))]])], 0⟩ = if asc w.length last (l.drop i) then some (.exit 4, ⟨[(1, .ptr 0 0 0), (4, vI k), (5, vI (lastD last (l.drop i)))], [some (.mx 2 [[.p (.rd 1 (w.map encI)), .p (.rd 1 (e.map fun l => [PV.rd 1 (l.map encI)]))]])], 0⟩) else some (.ret, ⟨[(2, vI 1)], [], 0⟩) := by
  intro m
  induction m with
  | zero =>
    intro i last h
    have h1 : ¬ (i : Int) < l.length := by omega
    have h2 : l.drop i = [] := List.drop_of_length_le (by omega)
    rw [lp_nx]; conv => lhs; arg 1; unfold x402b2
    simp only [↓sxP, sxQ, xai, xgo, xop, xG, AOp.touched, oldX, nwX, newX, xo, xput, refX, xbin, xint, loadP, loadX, ofC, xcells, xagg, Nat.blt, Value.oneCell', refsO, okGc, renO, rI, coX, Option.isSome, outS, outT, resX, tupX, lend1, lend0, scalX, xsb, pvX, zeroX, spliceG, xapp, xappP, xrd, eqP1, xstr, zpv, Nat.beq, Nat.ble, ↓reduceIte, Nat.reduceAdd, Nat.reduceLeDiff, Nat.reduceBEq, Nat.reduceEqDiff, Nat.reduceLT, Nat.reduceSub, Nat.reduceMul, Int.reduceLT, Int.reduceLE, Int.reduceAdd, Int.reduceSub, Int.reduceNeg, Int.reduceToNat, Int.reduceEq, reduceCtorEq, norm_cons, norm_nil, normB, pOwn, pSel, gcS, reach, addN, getO, live, gcH, h1, h2, hk, asc, lastD]
  | succ m ih =>
    intro i last h
    have hi : i < l.length := by omega
    have h1 : (i : Int) < l.length := by omega
    rw [lp_nx]; conv => lhs; arg 1; unfold x402b2
    simp only [↓sxP, sxQ, xai, xgo, xop, xG, AOp.touched, oldX, nwX, newX, xo, xput, refX, xbin, xint, loadP, loadX, ofC, xcells, xagg, Nat.blt, Value.oneCell', refsO, okGc, renO, rI, coX, Option.isSome, outS, outT, resX, tupX, lend1, lend0, scalX, xsb, pvX, zeroX, spliceG, xapp, xappP, xrd, eqP1, xstr, zpv, Nat.beq, Nat.ble, ↓reduceIte, Nat.reduceAdd, Nat.reduceLeDiff, Nat.reduceBEq, Nat.reduceEqDiff, Nat.reduceLT, Nat.reduceSub, Nat.reduceMul, Int.reduceLT, Int.reduceLE, Int.reduceAdd, Int.reduceSub, Int.reduceNeg, Int.reduceToNat, Int.reduceEq, reduceCtorEq, norm_cons, norm_nil, normB, pOwn, pSel, gcS, reach, addN, getO, live, gcH, h1, hk, get_some hi, encI, x402a2n, wrap_succ (i := i) (by omega), ih (i + 1) _ (by omega), drop_cons hi, asc, lastD, Bool.and_eq_true, decide_eq_true_eq]
    by_cases h2 : l[i] ≤ last
    · simp [h2]; omega
    · by_cases h3 : (w.length : Int) ≤ l[i]
      · simp [h2, h3]; omega
      · simp [h2, h3, show last < l[i] by omega, show l[i] < w.length by omega]

theorem l402_3 (w : List Int) (e : List (List Int)) (he : e.length ≤ 2000) (hl : ∀ l ∈ e, l.length ≤ 1048576) : ∀ m k : Nat, k + m = e.length →
    lp XT x402a3 x402b3 ⟨[(1, .ptr 0 0 0), (4, vI k)], [some (.mx 2 [[.p (.rd 1 (w.map encI)), .p (.rd 1 (e.map fun l => [PV.rd 1 (l.map encI)]))]])], 0⟩ = if (e.drop k).all (okE w.length) then some (.exit 2, ⟨[], [], 0⟩) else some (.ret, ⟨[(2, vI 1)], [], 0⟩) := by
  intro m
  induction m with
  | zero =>
    intro k h
    have h1 : ¬ (k : Int) < e.length := by omega
    have h2 : e.drop k = [] := List.drop_of_length_le (by omega)
    rw [lp_nx]; conv => lhs; arg 1; unfold x402b3
    simp only [↓sxP, sxQ, xai, xgo, xop, xG, AOp.touched, oldX, nwX, newX, xo, xput, refX, xbin, xint, loadP, loadX, ofC, xcells, xagg, Nat.blt, Value.oneCell', refsO, okGc, renO, rI, coX, Option.isSome, outS, outT, resX, tupX, lend1, lend0, scalX, xsb, pvX, zeroX, spliceG, xapp, xappP, xrd, eqP1, xstr, zpv, Nat.beq, Nat.ble, ↓reduceIte, Nat.reduceAdd, Nat.reduceLeDiff, Nat.reduceBEq, Nat.reduceEqDiff, Nat.reduceLT, Nat.reduceSub, Nat.reduceMul, Int.reduceLT, Int.reduceLE, Int.reduceAdd, Int.reduceSub, Int.reduceNeg, Int.reduceToNat, Int.reduceEq, reduceCtorEq, norm_cons, norm_nil, normB, pOwn, pSel, gcS, reach, addN, getO, live, gcH, h1, h2]
  | succ m ih =>
    intro k h
    have hk : k < e.length := by omega
    have h1 : (k : Int) < e.length := by omega
    have hin := fun last => l402_2 w e k e[k] (get_some hk) (hl _ (List.getElem_mem hk)) e[k].length 0 last (by omega)
    simp only [List.drop_zero, Int.natCast_zero] at hin
    rw [lp_nx]; conv => lhs; arg 1; unfold x402b3
    simp only [↓sxP, sxQ, xai, xgo, xop, xG, AOp.touched, oldX, nwX, newX, xo, xput, refX, xbin, xint, loadP, loadX, ofC, xcells, xagg, Nat.blt, Value.oneCell', refsO, okGc, renO, rI, coX, Option.isSome, outS, outT, resX, tupX, lend1, lend0, scalX, xsb, pvX, zeroX, spliceG, xapp, xappP, xrd, eqP1, xstr, zpv, Nat.beq, Nat.ble, ↓reduceIte, Nat.reduceAdd, Nat.reduceLeDiff, Nat.reduceBEq, Nat.reduceEqDiff, Nat.reduceLT, Nat.reduceSub, Nat.reduceMul, Int.reduceLT, Int.reduceLE, Int.reduceAdd, Int.reduceSub, Int.reduceNeg, Int.reduceToNat, Int.reduceEq, reduceCtorEq, norm_cons, norm_nil, normB, pOwn, pSel, gcS, reach, addN, getO, live, gcH, h1, get_some hk, x402a3n, x402a2n, wrap_succ (i := k) (by omega), ih (k + 1) (by omega), hin, drop_cons hk]
    by_cases h2 : asc w.length (-1) e[k] = true
    · have h3 := lastD_neg _ _ h2
      by_cases h4 : e[k] = []
      · have h5 := h3.2 h4
        simp [h4, okE, asc, lastD]
      · have h5 : ¬ lastD (-1) e[k] < 0 := fun h => h4 (h3.1 h)
        simp [h2, h5, okE, h4]
    · simp [h2, okE]

theorem call402 (w : List Int) (e : List (List Int)) (hl : ∀ l ∈ e, l.length ≤ 1048576) (hw : w.length ≤ 1048576) (he : e.length ≤ 1048576) (X : XHeap) :
    call XT 402 [.p (.agg [.rd 1 (w.map encI), .rd 1 (e.map fun l => [PV.rd 1 (l.map encI)])])] X = some (vI (validI w e), X) := by
  refine call_pure (F := f402) (args := [.agg [.rd 1 (w.map encI), .rd 1 (e.map fun l => [PV.rd 1 (l.map encI)])]])  T402 rfl rfl ?_
  unfold f402 x402
  by_cases h1 : w.length > 200
  · have h1' : (200 : Int) < w.length := by omega
    simp only [↓sxP, sxQ, xai, xgo, xop, xG, AOp.touched, oldX, nwX, newX, xo, xput, refX, xbin, xint, loadP, loadX, ofC, xcells, xagg, Nat.blt, Value.oneCell', refsO, okGc, renO, rI, coX, Option.isSome, outS, outT, resX, tupX, lend1, lend0, scalX, xsb, pvX, zeroX, spliceG, xapp, xappP, xrd, eqP1, xstr, zpv, Nat.beq, Nat.ble, ↓reduceIte, Nat.reduceAdd, Nat.reduceLeDiff, Nat.reduceBEq, Nat.reduceEqDiff, Nat.reduceLT, Nat.reduceSub, Nat.reduceMul, Int.reduceLT, Int.reduceLE, Int.reduceAdd, Int.reduceSub, Int.reduceNeg, Int.reduceToNat, Int.reduceEq, reduceCtorEq, norm_cons, norm_nil, normB, pOwn, pSel, gcS, reach, addN, getO, live, gcH, h1', maxEl]
    simp [validI, h1]
  · by_cases h2 : e.length > 2000
    · have h1' : ¬ (200 : Int) < w.length := by omega
      have h2' : (2000 : Int) < e.length := by omega
      simp only [↓sxP, sxQ, xai, xgo, xop, xG, AOp.touched, oldX, nwX, newX, xo, xput, refX, xbin, xint, loadP, loadX, ofC, xcells, xagg, Nat.blt, Value.oneCell', refsO, okGc, renO, rI, coX, Option.isSome, outS, outT, resX, tupX, lend1, lend0, scalX, xsb, pvX, zeroX, spliceG, xapp, xappP, xrd, eqP1, xstr, zpv, Nat.beq, Nat.ble, ↓reduceIte, Nat.reduceAdd, Nat.reduceLeDiff, Nat.reduceBEq, Nat.reduceEqDiff, Nat.reduceLT, Nat.reduceSub, Nat.reduceMul, Int.reduceLT, Int.reduceLE, Int.reduceAdd, Int.reduceSub, Int.reduceNeg, Int.reduceToNat, Int.reduceEq, reduceCtorEq, norm_cons, norm_nil, normB, pOwn, pSel, gcS, reach, addN, getO, live, gcH, h1', h2', maxEl]
      simp [validI, h2]
    · have h1' : ¬ (200 : Int) < w.length := by omega
      have h2' : ¬ (2000 : Int) < e.length := by omega
      have k1 := l402_1 w e (by omega) w.length 0 (by omega)
      have k2 := l402_3 w e (by omega) hl e.length 0 (by omega)
      simp only [List.drop_zero, Int.natCast_zero] at k1 k2
      simp only [↓sxP, sxQ, xai, xgo, xop, xG, AOp.touched, oldX, nwX, newX, xo, xput, refX, xbin, xint, loadP, loadX, ofC, xcells, xagg, Nat.blt, Value.oneCell', refsO, okGc, renO, rI, coX, Option.isSome, outS, outT, resX, tupX, lend1, lend0, scalX, xsb, pvX, zeroX, spliceG, xapp, xappP, xrd, eqP1, xstr, zpv, Nat.beq, Nat.ble, ↓reduceIte, Nat.reduceAdd, Nat.reduceLeDiff, Nat.reduceBEq, Nat.reduceEqDiff, Nat.reduceLT, Nat.reduceSub, Nat.reduceMul, Int.reduceLT, Int.reduceLE, Int.reduceAdd, Int.reduceSub, Int.reduceNeg, Int.reduceToNat, Int.reduceEq, reduceCtorEq, norm_cons, norm_nil, normB, pOwn, pSel, gcS, reach, addN, getO, live, gcH, h1', h2', maxEl, x402a1n, x402a3n, k1]
      by_cases h3 : w.all okW = true
      · simp only [↓sxP, sxQ, xai, xgo, xop, xG, AOp.touched, oldX, nwX, newX, xo, xput, refX, xbin, xint, loadP, loadX, ofC, xcells, xagg, Nat.blt, Value.oneCell', refsO, okGc, renO, rI, coX, Option.isSome, outS, outT, resX, tupX, lend1, lend0, scalX, xsb, pvX, zeroX, spliceG, xapp, xappP, xrd, eqP1, xstr, zpv, Nat.beq, Nat.ble, ↓reduceIte, Nat.reduceAdd, Nat.reduceLeDiff, Nat.reduceBEq, Nat.reduceEqDiff, Nat.reduceLT, Nat.reduceSub, Nat.reduceMul, Int.reduceLT, Int.reduceLE, Int.reduceAdd, Int.reduceSub, Int.reduceNeg, Int.reduceToNat, Int.reduceEq, reduceCtorEq, norm_cons, norm_nil, normB, pOwn, pSel, gcS, reach, addN, getO, live, gcH, h3, x402a3n, k2]
        by_cases h4 : e.all (okE w.length) = true
        · simp only [↓sxP, sxQ, xai, xgo, xop, xG, AOp.touched, oldX, nwX, newX, xo, xput, refX, xbin, xint, loadP, loadX, ofC, xcells, xagg, Nat.blt, Value.oneCell', refsO, okGc, renO, rI, coX, Option.isSome, outS, outT, resX, tupX, lend1, lend0, scalX, xsb, pvX, zeroX, spliceG, xapp, xappP, xrd, eqP1, xstr, zpv, Nat.beq, Nat.ble, ↓reduceIte, Nat.reduceAdd, Nat.reduceLeDiff, Nat.reduceBEq, Nat.reduceEqDiff, Nat.reduceLT, Nat.reduceSub, Nat.reduceMul, Int.reduceLT, Int.reduceLE, Int.reduceAdd, Int.reduceSub, Int.reduceNeg, Int.reduceToNat, Int.reduceEq, reduceCtorEq, norm_cons, norm_nil, normB, pOwn, pSel, gcS, reach, addN, getO, live, gcH, h4]
          simp [validI, h1, h2, h3, h4]
        · simp only [↓sxP, sxQ, xai, xgo, xop, xG, AOp.touched, oldX, nwX, newX, xo, xput, refX, xbin, xint, loadP, loadX, ofC, xcells, xagg, Nat.blt, Value.oneCell', refsO, okGc, renO, rI, coX, Option.isSome, outS, outT, resX, tupX, lend1, lend0, scalX, xsb, pvX, zeroX, spliceG, xapp, xappP, xrd, eqP1, xstr, zpv, Nat.beq, Nat.ble, ↓reduceIte, Nat.reduceAdd, Nat.reduceLeDiff, Nat.reduceBEq, Nat.reduceEqDiff, Nat.reduceLT, Nat.reduceSub, Nat.reduceMul, Int.reduceLT, Int.reduceLE, Int.reduceAdd, Int.reduceSub, Int.reduceNeg, Int.reduceToNat, Int.reduceEq, reduceCtorEq, norm_cons, norm_nil, normB, pOwn, pSel, gcS, reach, addN, getO, live, gcH, h4]
          simp [validI, h1, h2, h3, h4]
      · simp only [↓sxP, sxQ, xai, xgo, xop, xG, AOp.touched, oldX, nwX, newX, xo, xput, refX, xbin, xint, loadP, loadX, ofC, xcells, xagg, Nat.blt, Value.oneCell', refsO, okGc, renO, rI, coX, Option.isSome, outS, outT, resX, tupX, lend1, lend0, scalX, xsb, pvX, zeroX, spliceG, xapp, xappP, xrd, eqP1, xstr, zpv, Nat.beq, Nat.ble, ↓reduceIte, Nat.reduceAdd, Nat.reduceLeDiff, Nat.reduceBEq, Nat.reduceEqDiff, Nat.reduceLT, Nat.reduceSub, Nat.reduceMul, Int.reduceLT, Int.reduceLE, Int.reduceAdd, Int.reduceSub, Int.reduceNeg, Int.reduceToNat, Int.reduceEq, reduceCtorEq, norm_cons, norm_nil, normB, pOwn, pSel, gcS, reach, addN, getO, live, gcH, h3]
        simp [validI, h1, h2, h3]

theorem l401_1 (w : List Int) (e : List (List Int)) (hl : w.length ≤ 200) : ∀ m i : Nat, i + m = w.length →
    lp XT x401a1 x401b1 ⟨[(1, .ptr 0 0 0), (21, .p (.rd 1 (w.map encI))), (22, vI w.length), (23, vI i)], [some (.mx 2 [[.p (.rd 1 (w.map encI)), .p (.rd 1 (e.map fun l => [PV.rd 1 (l.map encI)]))]])], 0⟩ = if (w.drop i).all okW then some (.exit 0, ⟨[(1, .ptr 0 0 0)], [some (.mx 2 [[.p (.rd 1 (w.map encI)), .p (.rd 1 (e.map fun l => [PV.rd 1 (l.map encI)]))]])], 0⟩) else some (.ret, ⟨[(2, vI 1)], [], 0⟩) := by
  intro m
  induction m with
  | zero =>
    intro i h
    have h1 : ¬ (i : Int) < w.length := by omega
    have h2 : w.drop i = [] := List.drop_of_length_le (by omega)
    rw [lp_nx]; conv => lhs; arg 1; unfold x401b1
    simp only [↓sxP, sxQ, xai, xgo, xop, xG, AOp.touched, oldX, nwX, newX, xo, xput, refX, xbin, xint, loadP, loadX, ofC, xcells, xagg, Nat.blt, Value.oneCell', refsO, okGc, renO, rI, coX, Option.isSome, outS, outT, resX, tupX, lend1, lend0, scalX, xsb, pvX, zeroX, spliceG, xapp, xappP, xrd, eqP1, xstr, zpv, Nat.beq, Nat.ble, ↓reduceIte, Nat.reduceAdd, Nat.reduceLeDiff, Nat.reduceBEq, Nat.reduceEqDiff, Nat.reduceLT, Nat.reduceSub, Nat.reduceMul, Int.reduceLT, Int.reduceLE, Int.reduceAdd, Int.reduceSub, Int.reduceNeg, Int.reduceToNat, Int.reduceEq, reduceCtorEq, norm_cons, norm_nil, normB, pOwn, pSel, gcS, reach, addN, getO, live, gcH, h1, h2]
  | succ m ih =>
    intro i h
    have hi : i < w.length := by omega
    have h1 : (i : Int) < w.length := by omega
    rw [lp_nx]; conv => lhs; arg 1; unfold x401b1
    simp only [↓sxP, sxQ, xai, xgo, xop, xG, AOp.touched, oldX, nwX, newX, xo, xput, refX, xbin, xint, loadP, loadX, ofC, xcells, xagg, Nat.blt, Value.oneCell', refsO, okGc, renO, rI, coX, Option.isSome, outS, outT, resX, tupX, lend1, lend0, scalX, xsb, pvX, zeroX, spliceG, xapp, xappP, xrd, eqP1, xstr, zpv, Nat.beq, Nat.ble, ↓reduceIte, Nat.reduceAdd, Nat.reduceLeDiff, Nat.reduceBEq, Nat.reduceEqDiff, Nat.reduceLT, Nat.reduceSub, Nat.reduceMul, Int.reduceLT, Int.reduceLE, Int.reduceAdd, Int.reduceSub, Int.reduceNeg, Int.reduceToNat, Int.reduceEq, reduceCtorEq, norm_cons, norm_nil, normB, pOwn, pSel, gcS, reach, addN, getO, live, gcH, h1, get_some hi, encI, x401a1n, wrap_succ (i := i) (by omega), ih (i + 1) (by omega), drop_cons hi, okW, Bool.and_eq_true, decide_eq_true_eq]
    by_cases h2 : w[i] < 1
    · simp [h2]; omega
    · by_cases h3 : 1000000 < w[i]
      · simp [h2, h3]; omega
      · simp [h2, h3, show 1 ≤ w[i] by omega, show w[i] ≤ 1000000 by omega]

theorem l401_2 (w : List Int) (e : List (List Int)) (k : Nat) (l : List Int) (hl : l.length ≤ 1048576) : ∀ m i : Nat, ∀ last : Int, i + m = l.length →
    lp XT x401a2 x401b2 ⟨[(1, .ptr 0 0 0), (6, .p (.rd 1 (l.map encI))), (7, vI last), (35, .p (.rd 1 (e.map fun l => [PV.rd 1 (l.map encI)]))), (36, vI e.length), (37, vI k), (41, .p (.rd 1 (l.map encI))), (42, vI l.length), (43, vI i)], [some (.mx 2 [[.p (.rd 1 (w.map encI)), .p (.rd 1 (e.map fun l => [PV.rd 1 (l.map encI)]))]])], 0⟩ =
      if asc w.length last (l.drop i) then some (.exit 4, ⟨[(1, .ptr 0 0 0), (6, .p (.rd 1 (l.map encI))), (35, .p (.rd 1 (e.map fun l => [PV.rd 1 (l.map encI)]))), (36, vI e.length), (37, vI k)], [some (.mx 2 [[.p (.rd 1 (w.map encI)), .p (.rd 1 (e.map fun l => [PV.rd 1 (l.map encI)]))]])], 0⟩) else some (.ret, ⟨[(2, vI 1)], [], 0⟩) := by
  intro m
  induction m with
  | zero =>
    intro i last h
    have h1 : ¬ (i : Int) < l.length := by omega
    have h2 : l.drop i = [] := List.drop_of_length_le (by omega)
    rw [lp_nx]; conv => lhs; arg 1; unfold x401b2
    simp only [↓sxP, sxQ, xai, xgo, xop, xG, AOp.touched, oldX, nwX, newX, xo, xput, refX, xbin, xint, loadP, loadX, ofC, xcells, xagg, Nat.blt, Value.oneCell', refsO, okGc, renO, rI, coX, Option.isSome, outS, outT, resX, tupX, lend1, lend0, scalX, xsb, pvX, zeroX, spliceG, xapp, xappP, xrd, eqP1, xstr, zpv, Nat.beq, Nat.ble, ↓reduceIte, Nat.reduceAdd, Nat.reduceLeDiff, Nat.reduceBEq, Nat.reduceEqDiff, Nat.reduceLT, Nat.reduceSub, Nat.reduceMul, Int.reduceLT, Int.reduceLE, Int.reduceAdd, Int.reduceSub, Int.reduceNeg, Int.reduceToNat, Int.reduceEq, reduceCtorEq, norm_cons, norm_nil, normB, pOwn, pSel, gcS, reach, addN, getO, live, gcH, h1, h2, asc]
  | succ m ih =>
    intro i last h
    have hi : i < l.length := by omega
    have h1 : (i : Int) < l.length := by omega
    rw [lp_nx]; conv => lhs; arg 1; unfold x401b2
    simp only [↓sxP, sxQ, xai, xgo, xop, xG, AOp.touched, oldX, nwX, newX, xo, xput, refX, xbin, xint, loadP, loadX, ofC, xcells, xagg, Nat.blt, Value.oneCell', refsO, okGc, renO, rI, coX, Option.isSome, outS, outT, resX, tupX, lend1, lend0, scalX, xsb, pvX, zeroX, spliceG, xapp, xappP, xrd, eqP1, xstr, zpv, Nat.beq, Nat.ble, ↓reduceIte, Nat.reduceAdd, Nat.reduceLeDiff, Nat.reduceBEq, Nat.reduceEqDiff, Nat.reduceLT, Nat.reduceSub, Nat.reduceMul, Int.reduceLT, Int.reduceLE, Int.reduceAdd, Int.reduceSub, Int.reduceNeg, Int.reduceToNat, Int.reduceEq, reduceCtorEq, norm_cons, norm_nil, normB, pOwn, pSel, gcS, reach, addN, getO, live, gcH, h1, get_some hi, encI, x401a2n, wrap_succ (i := i) (by omega), ih (i + 1) _ (by omega), drop_cons hi, asc, Bool.and_eq_true, decide_eq_true_eq]
    by_cases h2 : l[i] ≤ last
    · simp [h2]; omega
    · by_cases h3 : (w.length : Int) ≤ l[i]
      · simp [h2, h3]; omega
      · simp [h2, h3, show last < l[i] by omega, show l[i] < w.length by omega]

theorem l401_3 (w : List Int) (e : List (List Int)) (he : e.length ≤ 2000) (hl : ∀ l ∈ e, l.length ≤ 1048576) : ∀ m k : Nat, k + m = e.length →
    lp XT x401a3 x401b3 ⟨[(1, .ptr 0 0 0), (35, .p (.rd 1 (e.map fun l => [PV.rd 1 (l.map encI)]))), (36, vI e.length), (37, vI k)], [some (.mx 2 [[.p (.rd 1 (w.map encI)), .p (.rd 1 (e.map fun l => [PV.rd 1 (l.map encI)]))]])], 0⟩ = if (e.drop k).all (okE w.length) then some (.exit 2, ⟨[], [], 0⟩) else some (.ret, ⟨[(2, vI 1)], [], 0⟩) := by
  intro m
  induction m with
  | zero =>
    intro k h
    have h1 : ¬ (k : Int) < e.length := by omega
    have h2 : e.drop k = [] := List.drop_of_length_le (by omega)
    rw [lp_nx]; conv => lhs; arg 1; unfold x401b3
    simp only [↓sxP, sxQ, xai, xgo, xop, xG, AOp.touched, oldX, nwX, newX, xo, xput, refX, xbin, xint, loadP, loadX, ofC, xcells, xagg, Nat.blt, Value.oneCell', refsO, okGc, renO, rI, coX, Option.isSome, outS, outT, resX, tupX, lend1, lend0, scalX, xsb, pvX, zeroX, spliceG, xapp, xappP, xrd, eqP1, xstr, zpv, Nat.beq, Nat.ble, ↓reduceIte, Nat.reduceAdd, Nat.reduceLeDiff, Nat.reduceBEq, Nat.reduceEqDiff, Nat.reduceLT, Nat.reduceSub, Nat.reduceMul, Int.reduceLT, Int.reduceLE, Int.reduceAdd, Int.reduceSub, Int.reduceNeg, Int.reduceToNat, Int.reduceEq, reduceCtorEq, norm_cons, norm_nil, normB, pOwn, pSel, gcS, reach, addN, getO, live, gcH, h1, h2]
  | succ m ih =>
    intro k h
    have hk : k < e.length := by omega
    have h1 : (k : Int) < e.length := by omega
    have hin := fun last => l401_2 w e k e[k] (hl _ (List.getElem_mem hk)) e[k].length 0 last (by omega)
    simp only [List.drop_zero, Int.natCast_zero] at hin
    rw [lp_nx]; conv => lhs; arg 1; unfold x401b3
    simp only [↓sxP, sxQ, xai, xgo, xop, xG, AOp.touched, oldX, nwX, newX, xo, xput, refX, xbin, xint, loadP, loadX, ofC, xcells, xagg, Nat.blt, Value.oneCell', refsO, okGc, renO, rI, coX, Option.isSome, outS, outT, resX, tupX, lend1, lend0, scalX, xsb, pvX, zeroX, spliceG, xapp, xappP, xrd, eqP1, xstr, zpv, Nat.beq, Nat.ble, ↓reduceIte, Nat.reduceAdd, Nat.reduceLeDiff, Nat.reduceBEq, Nat.reduceEqDiff, Nat.reduceLT, Nat.reduceSub, Nat.reduceMul, Int.reduceLT, Int.reduceLE, Int.reduceAdd, Int.reduceSub, Int.reduceNeg, Int.reduceToNat, Int.reduceEq, reduceCtorEq, norm_cons, norm_nil, normB, pOwn, pSel, gcS, reach, addN, getO, live, gcH, h1, get_some hk, x401a3n, x401a2n, wrap_succ (i := k) (by omega), ih (k + 1) (by omega), hin, drop_cons hk, List.map_map, Function.comp_def]
    by_cases h2 : asc w.length (-1) e[k] = true
    · by_cases h4 : e[k] = []
      · simp [h4, okE, asc]
      · have h5 : ¬ ((e[k].length : Int) = 0) := by have : e[k].length ≠ 0 := fun h => h4 (List.length_eq_zero_iff.1 h); omega
        simp [h2, h5, okE, h4]
    · simp [h2, okE]

theorem call401 (w : List Int) (e : List (List Int)) (hl : ∀ l ∈ e, l.length ≤ 1048576) (hw : w.length ≤ 1048576) (he : e.length ≤ 1048576) (X : XHeap) :
    call XT 401 [.p (.agg [.rd 1 (w.map encI), .rd 1 (e.map fun l => [PV.rd 1 (l.map encI)])])] X = some (vI (validI w e), X) := by
  refine call_pure (F := f401) (args := [.agg [.rd 1 (w.map encI), .rd 1 (e.map fun l => [PV.rd 1 (l.map encI)])]])  T401 rfl rfl ?_
  unfold f401 x401
  by_cases h1 : w.length > 200
  · have h1' : (200 : Int) < w.length := by omega
    simp only [↓sxP, sxQ, xai, xgo, xop, xG, AOp.touched, oldX, nwX, newX, xo, xput, refX, xbin, xint, loadP, loadX, ofC, xcells, xagg, Nat.blt, Value.oneCell', refsO, okGc, renO, rI, coX, Option.isSome, outS, outT, resX, tupX, lend1, lend0, scalX, xsb, pvX, zeroX, spliceG, xapp, xappP, xrd, eqP1, xstr, zpv, Nat.beq, Nat.ble, ↓reduceIte, Nat.reduceAdd, Nat.reduceLeDiff, Nat.reduceBEq, Nat.reduceEqDiff, Nat.reduceLT, Nat.reduceSub, Nat.reduceMul, Int.reduceLT, Int.reduceLE, Int.reduceAdd, Int.reduceSub, Int.reduceNeg, Int.reduceToNat, Int.reduceEq, reduceCtorEq, norm_cons, norm_nil, normB, pOwn, pSel, gcS, reach, addN, getO, live, gcH, h1', maxEl]
    simp [validI, h1]
  · by_cases h2 : e.length > 2000
    · have h1' : ¬ (200 : Int) < w.length := by omega
      have h2' : (2000 : Int) < e.length := by omega
      simp only [↓sxP, sxQ, xai, xgo, xop, xG, AOp.touched, oldX, nwX, newX, xo, xput, refX, xbin, xint, loadP, loadX, ofC, xcells, xagg, Nat.blt, Value.oneCell', refsO, okGc, renO, rI, coX, Option.isSome, outS, outT, resX, tupX, lend1, lend0, scalX, xsb, pvX, zeroX, spliceG, xapp, xappP, xrd, eqP1, xstr, zpv, Nat.beq, Nat.ble, ↓reduceIte, Nat.reduceAdd, Nat.reduceLeDiff, Nat.reduceBEq, Nat.reduceEqDiff, Nat.reduceLT, Nat.reduceSub, Nat.reduceMul, Int.reduceLT, Int.reduceLE, Int.reduceAdd, Int.reduceSub, Int.reduceNeg, Int.reduceToNat, Int.reduceEq, reduceCtorEq, norm_cons, norm_nil, normB, pOwn, pSel, gcS, reach, addN, getO, live, gcH, h1', h2', maxEl]
      simp [validI, h2]
    · have h1' : ¬ (200 : Int) < w.length := by omega
      have h2' : ¬ (2000 : Int) < e.length := by omega
      have k1 := l401_1 w e (by omega) w.length 0 (by omega)
      have k2 := l401_3 w e (by omega) hl e.length 0 (by omega)
      simp only [List.drop_zero, Int.natCast_zero] at k1 k2
      simp only [↓sxP, sxQ, xai, xgo, xop, xG, AOp.touched, oldX, nwX, newX, xo, xput, refX, xbin, xint, loadP, loadX, ofC, xcells, xagg, Nat.blt, Value.oneCell', refsO, okGc, renO, rI, coX, Option.isSome, outS, outT, resX, tupX, lend1, lend0, scalX, xsb, pvX, zeroX, spliceG, xapp, xappP, xrd, eqP1, xstr, zpv, Nat.beq, Nat.ble, ↓reduceIte, Nat.reduceAdd, Nat.reduceLeDiff, Nat.reduceBEq, Nat.reduceEqDiff, Nat.reduceLT, Nat.reduceSub, Nat.reduceMul, Int.reduceLT, Int.reduceLE, Int.reduceAdd, Int.reduceSub, Int.reduceNeg, Int.reduceToNat, Int.reduceEq, reduceCtorEq, norm_cons, norm_nil, normB, pOwn, pSel, gcS, reach, addN, getO, live, gcH, h1', h2', maxEl, x401a1n, x401a3n, k1]
      by_cases h3 : w.all okW = true
      · simp only [↓sxP, sxQ, xai, xgo, xop, xG, AOp.touched, oldX, nwX, newX, xo, xput, refX, xbin, xint, loadP, loadX, ofC, xcells, xagg, Nat.blt, Value.oneCell', refsO, okGc, renO, rI, coX, Option.isSome, outS, outT, resX, tupX, lend1, lend0, scalX, xsb, pvX, zeroX, spliceG, xapp, xappP, xrd, eqP1, xstr, zpv, Nat.beq, Nat.ble, ↓reduceIte, Nat.reduceAdd, Nat.reduceLeDiff, Nat.reduceBEq, Nat.reduceEqDiff, Nat.reduceLT, Nat.reduceSub, Nat.reduceMul, Int.reduceLT, Int.reduceLE, Int.reduceAdd, Int.reduceSub, Int.reduceNeg, Int.reduceToNat, Int.reduceEq, reduceCtorEq, norm_cons, norm_nil, normB, pOwn, pSel, gcS, reach, addN, getO, live, gcH, h3, x401a3n, k2, List.map_map, Function.comp_def]
        by_cases h4 : e.all (okE w.length) = true
        · simp only [↓sxP, sxQ, xai, xgo, xop, xG, AOp.touched, oldX, nwX, newX, xo, xput, refX, xbin, xint, loadP, loadX, ofC, xcells, xagg, Nat.blt, Value.oneCell', refsO, okGc, renO, rI, coX, Option.isSome, outS, outT, resX, tupX, lend1, lend0, scalX, xsb, pvX, zeroX, spliceG, xapp, xappP, xrd, eqP1, xstr, zpv, Nat.beq, Nat.ble, ↓reduceIte, Nat.reduceAdd, Nat.reduceLeDiff, Nat.reduceBEq, Nat.reduceEqDiff, Nat.reduceLT, Nat.reduceSub, Nat.reduceMul, Int.reduceLT, Int.reduceLE, Int.reduceAdd, Int.reduceSub, Int.reduceNeg, Int.reduceToNat, Int.reduceEq, reduceCtorEq, norm_cons, norm_nil, normB, pOwn, pSel, gcS, reach, addN, getO, live, gcH, h4]
          simp [validI, h1, h2, h3, h4]
        · simp only [↓sxP, sxQ, xai, xgo, xop, xG, AOp.touched, oldX, nwX, newX, xo, xput, refX, xbin, xint, loadP, loadX, ofC, xcells, xagg, Nat.blt, Value.oneCell', refsO, okGc, renO, rI, coX, Option.isSome, outS, outT, resX, tupX, lend1, lend0, scalX, xsb, pvX, zeroX, spliceG, xapp, xappP, xrd, eqP1, xstr, zpv, Nat.beq, Nat.ble, ↓reduceIte, Nat.reduceAdd, Nat.reduceLeDiff, Nat.reduceBEq, Nat.reduceEqDiff, Nat.reduceLT, Nat.reduceSub, Nat.reduceMul, Int.reduceLT, Int.reduceLE, Int.reduceAdd, Int.reduceSub, Int.reduceNeg, Int.reduceToNat, Int.reduceEq, reduceCtorEq, norm_cons, norm_nil, normB, pOwn, pSel, gcS, reach, addN, getO, live, gcH, h4]
          simp [validI, h1, h2, h3, h4]
      · simp only [↓sxP, sxQ, xai, xgo, xop, xG, AOp.touched, oldX, nwX, newX, xo, xput, refX, xbin, xint, loadP, loadX, ofC, xcells, xagg, Nat.blt, Value.oneCell', refsO, okGc, renO, rI, coX, Option.isSome, outS, outT, resX, tupX, lend1, lend0, scalX, xsb, pvX, zeroX, spliceG, xapp, xappP, xrd, eqP1, xstr, zpv, Nat.beq, Nat.ble, ↓reduceIte, Nat.reduceAdd, Nat.reduceLeDiff, Nat.reduceBEq, Nat.reduceEqDiff, Nat.reduceLT, Nat.reduceSub, Nat.reduceMul, Int.reduceLT, Int.reduceLE, Int.reduceAdd, Int.reduceSub, Int.reduceNeg, Int.reduceToNat, Int.reduceEq, reduceCtorEq, norm_cons, norm_nil, normB, pOwn, pSel, gcS, reach, addN, getO, live, gcH, h3]
        simp [validI, h1, h2, h3]
end Go.Abs

namespace Go.Abs
open Go
set_option linter.unusedSimpArgs false
set_option maxHeartbeats 1000000

theorem awake_any (X : XHeap) : call XT 400 [] X = some (vB true, X) := call_any P400 awake_call X

theorem law391 (w : List Int) (e : List (List Int)) (hl : ∀ l ∈ e, l.length ≤ 1048576) (hw : w.length ≤ 1048576) (he : e.length ≤ 1048576) (X : XHeap) :
    call XT 391 [.p (PV.agg [.rd 1 (w.map encI), .rd 1 (e.map fun l => [PV.rd 1 (l.map encI)])])] X = some (vB true, X) := by
  refine call_pure (F := f391) (args := [PV.agg [.rd 1 (w.map encI), .rd 1 (e.map fun l => [PV.rd 1 (l.map encI)])]]) T391 rfl rfl ?_
  unfold f391 x391
  by_cases h1 : (210 : Int) < w.length
  · simp only [↓sxP, sxQ, xai, xgo, xop, xG, AOp.touched, oldX, nwX, newX, xo, xput, refX, xbin, xint, loadP, loadX, ofC, xcells, xagg, Nat.blt, Value.oneCell', refsO, okGc, renO, rI, coX, Option.isSome, outS, outT, resX, tupX, lend1, lend0, scalX, xsb, pvX, zeroX, spliceG, xapp, xappP, xrd, eqP1, xstr, zpv, Nat.beq, Nat.ble, ↓reduceIte, Nat.reduceAdd, Nat.reduceLeDiff, Nat.reduceBEq, Nat.reduceEqDiff, Nat.reduceLT, Nat.reduceSub, Nat.reduceMul, Int.reduceLT, Int.reduceLE, Int.reduceAdd, Int.reduceSub, Int.reduceNeg, Int.reduceToNat, Int.reduceEq, reduceCtorEq, norm_cons, norm_nil, normB, pOwn, pSel, gcS, reach, addN, getO, live, gcH, maxEl, P400, awake_any, h1]
  · by_cases h2 : (2010 : Int) < e.length
    · simp only [↓sxP, sxQ, xai, xgo, xop, xG, AOp.touched, oldX, nwX, newX, xo, xput, refX, xbin, xint, loadP, loadX, ofC, xcells, xagg, Nat.blt, Value.oneCell', refsO, okGc, renO, rI, coX, Option.isSome, outS, outT, resX, tupX, lend1, lend0, scalX, xsb, pvX, zeroX, spliceG, xapp, xappP, xrd, eqP1, xstr, zpv, Nat.beq, Nat.ble, ↓reduceIte, Nat.reduceAdd, Nat.reduceLeDiff, Nat.reduceBEq, Nat.reduceEqDiff, Nat.reduceLT, Nat.reduceSub, Nat.reduceMul, Int.reduceLT, Int.reduceLE, Int.reduceAdd, Int.reduceSub, Int.reduceNeg, Int.reduceToNat, Int.reduceEq, reduceCtorEq, norm_cons, norm_nil, normB, pOwn, pSel, gcS, reach, addN, getO, live, gcH, maxEl, P400, awake_any, h1, h2]
    · simp only [↓sxP, sxQ, xai, xgo, xop, xG, AOp.touched, oldX, nwX, newX, xo, xput, refX, xbin, xint, loadP, loadX, ofC, xcells, xagg, Nat.blt, Value.oneCell', refsO, okGc, renO, rI, coX, Option.isSome, outS, outT, resX, tupX, lend1, lend0, scalX, xsb, pvX, zeroX, spliceG, xapp, xappP, xrd, eqP1, xstr, zpv, Nat.beq, Nat.ble, ↓reduceIte, Nat.reduceAdd, Nat.reduceLeDiff, Nat.reduceBEq, Nat.reduceEqDiff, Nat.reduceLT, Nat.reduceSub, Nat.reduceMul, Int.reduceLT, Int.reduceLE, Int.reduceAdd, Int.reduceSub, Int.reduceNeg, Int.reduceToNat, Int.reduceEq, reduceCtorEq, norm_cons, norm_nil, normB, pOwn, pSel, gcS, reach, addN, getO, live, gcH, maxEl, P400, awake_any, h1, h2, P401, P402, call401 w e hl hw he, call402 w e hl hw he]
end Go.Abs
