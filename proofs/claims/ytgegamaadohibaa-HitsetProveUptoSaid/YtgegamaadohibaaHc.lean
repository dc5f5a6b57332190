/- The law HitsetHits of chapter 39. No condition. -/
import Derived.Test.YtgegamaadohibaaHb
namespace Go.Abs
open Go
set_option linter.unusedSimpArgs false
set_option maxHeartbeats 1000000
set_option maxRecDepth 8000

/-- The sum of the weights of different vertices. -/
def wsum (w : List Int) : List Int → List Int → Int → Option Int
  | _, [], s => some s
  | pre, v :: r, s => if v < 0 ∨ (w.length : Int) ≤ v ∨ v ∈ pre then none else wsum w (pre ++ [v]) r (IntKind.i64.wrap (s + w.getD v.toNat 0))

theorem take_map {α β : Type} (f : α → β) (l : List α) (i : Nat) : (l.map f).take i = (l.take i).map f := List.map_take.symm
theorem take_succ {l : List Int} {i : Nat} (h : i < l.length) : l.take (i + 1) = l.take i ++ [l[i]] := (List.take_succ_eq_append_getElem h)
theorem getD_some {w : List Int} {n : Nat} (h : n < w.length) : w[n]? = some (w.getD n 0) := by simp [h]

theorem l413 (w : List Int) (e : List (List Int)) (l : List Int) (hl : l.length ≤ 1048576) : ∀ m i : Nat, ∀ s : Int, i + m = l.length →
    lp XT x413a1 x413b1 ⟨[(1, .p (.rd 1 (l.map encI))), (2, .ptr 0 0 0), (7, vI s), (15, .p (.rd 1 (l.map encI))), (16, vI l.length), (17, vI i)], [some (.mx 2 [[.p (.rd 1 (w.map encI)), .p (.rd 1 (e.map fun l => [PV.rd 1 (l.map encI)]))]])], 0⟩ =
      match wsum w (l.take i) (l.drop i) s with | some t => some (.exit 0, ⟨[(7, vI t)], [], 0⟩) | none => some (.ret, ⟨[(4, vI 0), (5, vI 1)], [], 0⟩) := by
  intro m
  induction m with
  | zero =>
    intro i s h
    have h1 : ¬ (i : Int) < l.length := by omega
    have h2 : l.drop i = [] := List.drop_of_length_le (by omega)
    rw [lp_nx]; conv => lhs; arg 1; unfold x413b1
    simp only [↓sxP, sxQ, xai, xgo, xop, xG, AOp.touched, oldX, nwX, newX, xo, xput, refX, xbin, xint, loadP, loadX, ofC, xcells, xagg, Nat.blt, Value.oneCell', refsO, okGc, renO, rI, coX, Option.isSome, outS, outT, resX, tupX, lend1, lend0, scalX, xsb, pvX, zeroX, spliceG, xapp, xappP, xrd, eqP1, xstr, zpv, Nat.beq, Nat.ble, ↓reduceIte, Nat.reduceAdd, Nat.reduceLeDiff, Nat.reduceBEq, Nat.reduceEqDiff, Nat.reduceLT, Nat.reduceSub, Nat.reduceMul, Int.reduceLT, Int.reduceLE, Int.reduceAdd, Int.reduceSub, Int.reduceNeg, Int.reduceToNat, Int.reduceEq, reduceCtorEq, norm_cons, norm_nil, normB, pOwn, pSel, gcS, reach, addN, getO, live, gcH, h1, h2, wsum]
  | succ m ih =>
    intro i s h
    have hi : i < l.length := by omega
    have h1 : (i : Int) < l.length := by omega
    have hc := fun X => call434 l[i] (l.take i) (by simp; omega) X
    rw [lp_nx]; conv => lhs; arg 1; unfold x413b1
    by_cases h2 : l[i] < 0
    · simp only [↓sxP, sxQ, xai, xgo, xop, xG, AOp.touched, oldX, nwX, newX, xo, xput, refX, xbin, xint, loadP, loadX, ofC, xcells, xagg, Nat.blt, Value.oneCell', refsO, okGc, renO, rI, coX, Option.isSome, outS, outT, resX, tupX, lend1, lend0, scalX, xsb, pvX, zeroX, spliceG, xapp, xappP, xrd, eqP1, xstr, zpv, Nat.beq, Nat.ble, ↓reduceIte, Nat.reduceAdd, Nat.reduceLeDiff, Nat.reduceBEq, Nat.reduceEqDiff, Nat.reduceLT, Nat.reduceSub, Nat.reduceMul, Int.reduceLT, Int.reduceLE, Int.reduceAdd, Int.reduceSub, Int.reduceNeg, Int.reduceToNat, Int.reduceEq, reduceCtorEq, norm_cons, norm_nil, normB, pOwn, pSel, gcS, reach, addN, getO, live, gcH, h1, get_some hi, encI, drop_cons hi, wsum, h2]
    · by_cases h3 : (w.length : Int) ≤ l[i]
      · simp only [↓sxP, sxQ, xai, xgo, xop, xG, AOp.touched, oldX, nwX, newX, xo, xput, refX, xbin, xint, loadP, loadX, ofC, xcells, xagg, Nat.blt, Value.oneCell', refsO, okGc, renO, rI, coX, Option.isSome, outS, outT, resX, tupX, lend1, lend0, scalX, xsb, pvX, zeroX, spliceG, xapp, xappP, xrd, eqP1, xstr, zpv, Nat.beq, Nat.ble, ↓reduceIte, Nat.reduceAdd, Nat.reduceLeDiff, Nat.reduceBEq, Nat.reduceEqDiff, Nat.reduceLT, Nat.reduceSub, Nat.reduceMul, Int.reduceLT, Int.reduceLE, Int.reduceAdd, Int.reduceSub, Int.reduceNeg, Int.reduceToNat, Int.reduceEq, reduceCtorEq, norm_cons, norm_nil, normB, pOwn, pSel, gcS, reach, addN, getO, live, gcH, h1, get_some hi, encI, drop_cons hi, wsum, h2, h3]
      · by_cases h4 : l[i] ∈ l.take i
        · simp only [↓sxP, sxQ, xai, xgo, xop, xG, AOp.touched, oldX, nwX, newX, xo, xput, refX, xbin, xint, loadP, loadX, ofC, xcells, xagg, Nat.blt, Value.oneCell', refsO, okGc, renO, rI, coX, Option.isSome, outS, outT, resX, tupX, lend1, lend0, scalX, xsb, pvX, zeroX, spliceG, xapp, xappP, xrd, eqP1, xstr, zpv, Nat.beq, Nat.ble, ↓reduceIte, Nat.reduceAdd, Nat.reduceLeDiff, Nat.reduceBEq, Nat.reduceEqDiff, Nat.reduceLT, Nat.reduceSub, Nat.reduceMul, Int.reduceLT, Int.reduceLE, Int.reduceAdd, Int.reduceSub, Int.reduceNeg, Int.reduceToNat, Int.reduceEq, reduceCtorEq, norm_cons, norm_nil, normB, pOwn, pSel, gcS, reach, addN, getO, live, gcH, h1, get_some hi, encI, drop_cons hi, wsum, h2, h3, h4, take_map, hi, Nat.zero_le, Nat.le_of_lt hi, P434, hc]
        · have h5 : 0 ≤ l[i] := by omega
          have h6 : w[l[i].toNat]? = some (w.getD l[i].toNat 0) := getD_some (by omega)
          simp only [↓sxP, sxQ, xai, xgo, xop, xG, AOp.touched, oldX, nwX, newX, xo, xput, refX, xbin, xint, loadP, loadX, ofC, xcells, xagg, Nat.blt, Value.oneCell', refsO, okGc, renO, rI, coX, Option.isSome, outS, outT, resX, tupX, lend1, lend0, scalX, xsb, pvX, zeroX, spliceG, xapp, xappP, xrd, eqP1, xstr, zpv, Nat.beq, Nat.ble, ↓reduceIte, Nat.reduceAdd, Nat.reduceLeDiff, Nat.reduceBEq, Nat.reduceEqDiff, Nat.reduceLT, Nat.reduceSub, Nat.reduceMul, Int.reduceLT, Int.reduceLE, Int.reduceAdd, Int.reduceSub, Int.reduceNeg, Int.reduceToNat, Int.reduceEq, reduceCtorEq, norm_cons, norm_nil, normB, pOwn, pSel, gcS, reach, addN, getO, live, gcH, h1, get_some hi, encI, drop_cons hi, wsum, h2, h3, h4, h5, h6, take_map, hi, Nat.zero_le, Nat.le_of_lt hi, P434, hc, x413a1n, wrap_succ (i := i) (by omega), ih (i + 1) _ (by omega), take_succ hi]

/-- What 'Weight' answers. -/
def weightI (w : List Int) (e : List (List Int)) (l : List Int) : Int × Int :=
  if validI w e ≠ 0 then (0, validI w e) else match wsum w [] l 0 with | some t => (t, 0) | none => (0, 1)

theorem call413 (w : List Int) (e : List (List Int)) (l : List Int) (hw : w.length ≤ 1048576) (he : e.length ≤ 1048576) (hm : ∀ a ∈ e, a.length ≤ 1048576) (hl : l.length ≤ 1048576) (X : XHeap) :
    call XT 413 [.p (PV.agg [.rd 1 (w.map encI), .rd 1 (e.map fun l => [PV.rd 1 (l.map encI)])]), .p (.rd 1 (l.map encI))] X = some (.p (.tup [pI (weightI w e l).1, pI (weightI w e l).2]), X) := by
  refine call_pure (F := f413) (args := [PV.agg [.rd 1 (w.map encI), .rd 1 (e.map fun l => [PV.rd 1 (l.map encI)])], .rd 1 (l.map encI)]) T413 rfl rfl ?_
  unfold f413 x413
  have k1 := l413 w e l hl l.length 0 0 (by omega)
  simp only [List.drop_zero, List.take_zero, Int.natCast_zero] at k1
  have hc := call401 w e hm hw he
  by_cases h1 : validI w e = 0
  · simp only [↓sxP, sxQ, xai, xgo, xop, xG, AOp.touched, oldX, nwX, newX, xo, xput, refX, xbin, xint, loadP, loadX, ofC, xcells, xagg, Nat.blt, Value.oneCell', refsO, okGc, renO, rI, coX, Option.isSome, outS, outT, resX, tupX, lend1, lend0, scalX, xsb, pvX, zeroX, spliceG, xapp, xappP, xrd, eqP1, xstr, zpv, Nat.beq, Nat.ble, ↓reduceIte, Nat.reduceAdd, Nat.reduceLeDiff, Nat.reduceBEq, Nat.reduceEqDiff, Nat.reduceLT, Nat.reduceSub, Nat.reduceMul, Int.reduceLT, Int.reduceLE, Int.reduceAdd, Int.reduceSub, Int.reduceNeg, Int.reduceToNat, Int.reduceEq, reduceCtorEq, norm_cons, norm_nil, normB, pOwn, pSel, gcS, reach, addN, getO, live, gcH, maxEl, x413a1n, P401, hc, h1, k1]
    cases h2 : wsum w [] l 0 with
    | none => simp only [↓sxP, sxQ, xai, xgo, xop, xG, AOp.touched, oldX, nwX, newX, xo, xput, refX, xbin, xint, loadP, loadX, ofC, xcells, xagg, Nat.blt, Value.oneCell', refsO, okGc, renO, rI, coX, Option.isSome, outS, outT, resX, tupX, lend1, lend0, scalX, xsb, pvX, zeroX, spliceG, xapp, xappP, xrd, eqP1, xstr, zpv, Nat.beq, Nat.ble, ↓reduceIte, Nat.reduceAdd, Nat.reduceLeDiff, Nat.reduceBEq, Nat.reduceEqDiff, Nat.reduceLT, Nat.reduceSub, Nat.reduceMul, Int.reduceLT, Int.reduceLE, Int.reduceAdd, Int.reduceSub, Int.reduceNeg, Int.reduceToNat, Int.reduceEq, reduceCtorEq, norm_cons, norm_nil, normB, pOwn, pSel, gcS, reach, addN, getO, live, gcH, weightI, h1, h2, ne_eq, not_true]
    | some t => simp only [↓sxP, sxQ, xai, xgo, xop, xG, AOp.touched, oldX, nwX, newX, xo, xput, refX, xbin, xint, loadP, loadX, ofC, xcells, xagg, Nat.blt, Value.oneCell', refsO, okGc, renO, rI, coX, Option.isSome, outS, outT, resX, tupX, lend1, lend0, scalX, xsb, pvX, zeroX, spliceG, xapp, xappP, xrd, eqP1, xstr, zpv, Nat.beq, Nat.ble, ↓reduceIte, Nat.reduceAdd, Nat.reduceLeDiff, Nat.reduceBEq, Nat.reduceEqDiff, Nat.reduceLT, Nat.reduceSub, Nat.reduceMul, Int.reduceLT, Int.reduceLE, Int.reduceAdd, Int.reduceSub, Int.reduceNeg, Int.reduceToNat, Int.reduceEq, reduceCtorEq, norm_cons, norm_nil, normB, pOwn, pSel, gcS, reach, addN, getO, live, gcH, weightI, h1, h2, ne_eq, not_true]
  · simp only [↓sxP, sxQ, xai, xgo, xop, xG, AOp.touched, oldX, nwX, newX, xo, xput, refX, xbin, xint, loadP, loadX, ofC, xcells, xagg, Nat.blt, Value.oneCell', refsO, okGc, renO, rI, coX, Option.isSome, outS, outT, resX, tupX, lend1, lend0, scalX, xsb, pvX, zeroX, spliceG, xapp, xappP, xrd, eqP1, xstr, zpv, Nat.beq, Nat.ble, ↓reduceIte, Nat.reduceAdd, Nat.reduceLeDiff, Nat.reduceBEq, Nat.reduceEqDiff, Nat.reduceLT, Nat.reduceSub, Nat.reduceMul, Int.reduceLT, Int.reduceLE, Int.reduceAdd, Int.reduceSub, Int.reduceNeg, Int.reduceToNat, Int.reduceEq, reduceCtorEq, norm_cons, norm_nil, normB, pOwn, pSel, gcS, reach, addN, getO, live, gcH, maxEl, x413a1n, P401, hc, h1]
    simp [weightI, h1]

theorem l405 (w : List Int) (e : List (List Int)) (l : List Int) (hl : l.length ≤ 1048576) : ∀ m i : Nat, ∀ s : Int, i + m = l.length →
    lp XT x405a1 x405b1 ⟨[(1, .p (.rd 1 (l.map encI))), (2, .ptr 0 0 0), (7, vI s), (8, vI i)], [some (.mx 2 [[.p (.rd 1 (w.map encI)), .p (.rd 1 (e.map fun l => [PV.rd 1 (l.map encI)]))]])], 0⟩ =
      match wsum w (l.take i) (l.drop i) s with | some t => some (.exit 0, ⟨[(7, vI t)], [], 0⟩) | none => some (.ret, ⟨[(4, vI 0), (5, vI 1)], [], 0⟩) := by
  intro m
  induction m with
  | zero =>
    intro i s h
    have h1 : ¬ (i : Int) < l.length := by omega
    have h2 : l.drop i = [] := List.drop_of_length_le (by omega)
    rw [lp_nx]; conv => lhs; arg 1; unfold x405b1
    simp only [↓sxP, sxQ, xai, xgo, xop, xG, AOp.touched, oldX, nwX, newX, xo, xput, refX, xbin, xint, loadP, loadX, ofC, xcells, xagg, Nat.blt, Value.oneCell', refsO, okGc, renO, rI, coX, Option.isSome, outS, outT, resX, tupX, lend1, lend0, scalX, xsb, pvX, zeroX, spliceG, xapp, xappP, xrd, eqP1, xstr, zpv, Nat.beq, Nat.ble, ↓reduceIte, Nat.reduceAdd, Nat.reduceLeDiff, Nat.reduceBEq, Nat.reduceEqDiff, Nat.reduceLT, Nat.reduceSub, Nat.reduceMul, Int.reduceLT, Int.reduceLE, Int.reduceAdd, Int.reduceSub, Int.reduceNeg, Int.reduceToNat, Int.reduceEq, reduceCtorEq, norm_cons, norm_nil, normB, pOwn, pSel, gcS, reach, addN, getO, live, gcH, h1, h2, wsum]
  | succ m ih =>
    intro i s h
    have hi : i < l.length := by omega
    have h1 : (i : Int) < l.length := by omega
    have hc := fun X => call428 l[i] (l.take i) (by simp; omega) X
    rw [lp_nx]; conv => lhs; arg 1; unfold x405b1
    by_cases h2 : l[i] < 0
    · simp only [↓sxP, sxQ, xai, xgo, xop, xG, AOp.touched, oldX, nwX, newX, xo, xput, refX, xbin, xint, loadP, loadX, ofC, xcells, xagg, Nat.blt, Value.oneCell', refsO, okGc, renO, rI, coX, Option.isSome, outS, outT, resX, tupX, lend1, lend0, scalX, xsb, pvX, zeroX, spliceG, xapp, xappP, xrd, eqP1, xstr, zpv, Nat.beq, Nat.ble, ↓reduceIte, Nat.reduceAdd, Nat.reduceLeDiff, Nat.reduceBEq, Nat.reduceEqDiff, Nat.reduceLT, Nat.reduceSub, Nat.reduceMul, Int.reduceLT, Int.reduceLE, Int.reduceAdd, Int.reduceSub, Int.reduceNeg, Int.reduceToNat, Int.reduceEq, reduceCtorEq, norm_cons, norm_nil, normB, pOwn, pSel, gcS, reach, addN, getO, live, gcH, h1, get_some hi, encI, drop_cons hi, wsum, h2]
    · by_cases h3 : (w.length : Int) ≤ l[i]
      · simp only [↓sxP, sxQ, xai, xgo, xop, xG, AOp.touched, oldX, nwX, newX, xo, xput, refX, xbin, xint, loadP, loadX, ofC, xcells, xagg, Nat.blt, Value.oneCell', refsO, okGc, renO, rI, coX, Option.isSome, outS, outT, resX, tupX, lend1, lend0, scalX, xsb, pvX, zeroX, spliceG, xapp, xappP, xrd, eqP1, xstr, zpv, Nat.beq, Nat.ble, ↓reduceIte, Nat.reduceAdd, Nat.reduceLeDiff, Nat.reduceBEq, Nat.reduceEqDiff, Nat.reduceLT, Nat.reduceSub, Nat.reduceMul, Int.reduceLT, Int.reduceLE, Int.reduceAdd, Int.reduceSub, Int.reduceNeg, Int.reduceToNat, Int.reduceEq, reduceCtorEq, norm_cons, norm_nil, normB, pOwn, pSel, gcS, reach, addN, getO, live, gcH, h1, get_some hi, encI, drop_cons hi, wsum, h2, h3]
      · by_cases h4 : l[i] ∈ l.take i
        · simp only [↓sxP, sxQ, xai, xgo, xop, xG, AOp.touched, oldX, nwX, newX, xo, xput, refX, xbin, xint, loadP, loadX, ofC, xcells, xagg, Nat.blt, Value.oneCell', refsO, okGc, renO, rI, coX, Option.isSome, outS, outT, resX, tupX, lend1, lend0, scalX, xsb, pvX, zeroX, spliceG, xapp, xappP, xrd, eqP1, xstr, zpv, Nat.beq, Nat.ble, ↓reduceIte, Nat.reduceAdd, Nat.reduceLeDiff, Nat.reduceBEq, Nat.reduceEqDiff, Nat.reduceLT, Nat.reduceSub, Nat.reduceMul, Int.reduceLT, Int.reduceLE, Int.reduceAdd, Int.reduceSub, Int.reduceNeg, Int.reduceToNat, Int.reduceEq, reduceCtorEq, norm_cons, norm_nil, normB, pOwn, pSel, gcS, reach, addN, getO, live, gcH, h1, get_some hi, encI, drop_cons hi, wsum, h2, h3, h4, take_map, hi, Nat.zero_le, Nat.le_of_lt hi, P428, hc]
        · have h5 : 0 ≤ l[i] := by omega
          have h6 : w[l[i].toNat]? = some (w.getD l[i].toNat 0) := getD_some (by omega)
          simp only [↓sxP, sxQ, xai, xgo, xop, xG, AOp.touched, oldX, nwX, newX, xo, xput, refX, xbin, xint, loadP, loadX, ofC, xcells, xagg, Nat.blt, Value.oneCell', refsO, okGc, renO, rI, coX, Option.isSome, outS, outT, resX, tupX, lend1, lend0, scalX, xsb, pvX, zeroX, spliceG, xapp, xappP, xrd, eqP1, xstr, zpv, Nat.beq, Nat.ble, ↓reduceIte, Nat.reduceAdd, Nat.reduceLeDiff, Nat.reduceBEq, Nat.reduceEqDiff, Nat.reduceLT, Nat.reduceSub, Nat.reduceMul, Int.reduceLT, Int.reduceLE, Int.reduceAdd, Int.reduceSub, Int.reduceNeg, Int.reduceToNat, Int.reduceEq, reduceCtorEq, norm_cons, norm_nil, normB, pOwn, pSel, gcS, reach, addN, getO, live, gcH, h1, get_some hi, encI, drop_cons hi, wsum, h2, h3, h4, h5, h6, take_map, hi, Nat.zero_le, Nat.le_of_lt hi, P428, hc, x405a1n, wrap_succ (i := i) (by omega), ih (i + 1) _ (by omega), take_succ hi]

theorem call405 (w : List Int) (e : List (List Int)) (l : List Int) (hw : w.length ≤ 1048576) (he : e.length ≤ 1048576) (hm : ∀ a ∈ e, a.length ≤ 1048576) (hl : l.length ≤ 1048576) (X : XHeap) :
    call XT 405 [.p (PV.agg [.rd 1 (w.map encI), .rd 1 (e.map fun l => [PV.rd 1 (l.map encI)])]), .p (.rd 1 (l.map encI))] X = some (.p (.tup [pI (weightI w e l).1, pI (weightI w e l).2]), X) := by
  refine call_pure (F := f405) (args := [PV.agg [.rd 1 (w.map encI), .rd 1 (e.map fun l => [PV.rd 1 (l.map encI)])], .rd 1 (l.map encI)]) T405 rfl rfl ?_
  unfold f405 x405
  have k1 := l405 w e l hl l.length 0 0 (by omega)
  simp only [List.drop_zero, List.take_zero, Int.natCast_zero] at k1
  have hc := call402 w e hm hw he
  by_cases h1 : validI w e = 0
  · simp only [↓sxP, sxQ, xai, xgo, xop, xG, AOp.touched, oldX, nwX, newX, xo, xput, refX, xbin, xint, loadP, loadX, ofC, xcells, xagg, Nat.blt, Value.oneCell', refsO, okGc, renO, rI, coX, Option.isSome, outS, outT, resX, tupX, lend1, lend0, scalX, xsb, pvX, zeroX, spliceG, xapp, xappP, xrd, eqP1, xstr, zpv, Nat.beq, Nat.ble, ↓reduceIte, Nat.reduceAdd, Nat.reduceLeDiff, Nat.reduceBEq, Nat.reduceEqDiff, Nat.reduceLT, Nat.reduceSub, Nat.reduceMul, Int.reduceLT, Int.reduceLE, Int.reduceAdd, Int.reduceSub, Int.reduceNeg, Int.reduceToNat, Int.reduceEq, reduceCtorEq, norm_cons, norm_nil, normB, pOwn, pSel, gcS, reach, addN, getO, live, gcH, maxEl, x405a1n, P402, hc, h1, k1]
    cases h2 : wsum w [] l 0 with
    | none => simp only [↓sxP, sxQ, xai, xgo, xop, xG, AOp.touched, oldX, nwX, newX, xo, xput, refX, xbin, xint, loadP, loadX, ofC, xcells, xagg, Nat.blt, Value.oneCell', refsO, okGc, renO, rI, coX, Option.isSome, outS, outT, resX, tupX, lend1, lend0, scalX, xsb, pvX, zeroX, spliceG, xapp, xappP, xrd, eqP1, xstr, zpv, Nat.beq, Nat.ble, ↓reduceIte, Nat.reduceAdd, Nat.reduceLeDiff, Nat.reduceBEq, Nat.reduceEqDiff, Nat.reduceLT, Nat.reduceSub, Nat.reduceMul, Int.reduceLT, Int.reduceLE, Int.reduceAdd, Int.reduceSub, Int.reduceNeg, Int.reduceToNat, Int.reduceEq, reduceCtorEq, norm_cons, norm_nil, normB, pOwn, pSel, gcS, reach, addN, getO, live, gcH, weightI, h1, h2, ne_eq, not_true]
    | some t => simp only [↓sxP, sxQ, xai, xgo, xop, xG, AOp.touched, oldX, nwX, newX, xo, xput, refX, xbin, xint, loadP, loadX, ofC, xcells, xagg, Nat.blt, Value.oneCell', refsO, okGc, renO, rI, coX, Option.isSome, outS, outT, resX, tupX, lend1, lend0, scalX, xsb, pvX, zeroX, spliceG, xapp, xappP, xrd, eqP1, xstr, zpv, Nat.beq, Nat.ble, ↓reduceIte, Nat.reduceAdd, Nat.reduceLeDiff, Nat.reduceBEq, Nat.reduceEqDiff, Nat.reduceLT, Nat.reduceSub, Nat.reduceMul, Int.reduceLT, Int.reduceLE, Int.reduceAdd, Int.reduceSub, Int.reduceNeg, Int.reduceToNat, Int.reduceEq, reduceCtorEq, norm_cons, norm_nil, normB, pOwn, pSel, gcS, reach, addN, getO, live, gcH, weightI, h1, h2, ne_eq, not_true]
  · simp only [↓sxP, sxQ, xai, xgo, xop, xG, AOp.touched, oldX, nwX, newX, xo, xput, refX, xbin, xint, loadP, loadX, ofC, xcells, xagg, Nat.blt, Value.oneCell', refsO, okGc, renO, rI, coX, Option.isSome, outS, outT, resX, tupX, lend1, lend0, scalX, xsb, pvX, zeroX, spliceG, xapp, xappP, xrd, eqP1, xstr, zpv, Nat.beq, Nat.ble, ↓reduceIte, Nat.reduceAdd, Nat.reduceLeDiff, Nat.reduceBEq, Nat.reduceEqDiff, Nat.reduceLT, Nat.reduceSub, Nat.reduceMul, Int.reduceLT, Int.reduceLE, Int.reduceAdd, Int.reduceSub, Int.reduceNeg, Int.reduceToNat, Int.reduceEq, reduceCtorEq, norm_cons, norm_nil, normB, pOwn, pSel, gcS, reach, addN, getO, live, gcH, maxEl, x405a1n, P402, hc, h1]
    simp [weightI, h1]

theorem law395 (w : List Int) (e : List (List Int)) (l : List Int) (hm : ∀ l ∈ e, l.length ≤ 1048576) (hw : w.length ≤ 1048576) (he : e.length ≤ 1048576) (hl : l.length ≤ 1048576) (X : XHeap) :
    call XT 395 [.p (PV.agg [.rd 1 (w.map encI), .rd 1 (e.map fun l => [PV.rd 1 (l.map encI)])]), .p (.rd 1 (l.map encI))] X = some (vB true, X) := by
  refine call_pure (F := f395) (args := [PV.agg [.rd 1 (w.map encI), .rd 1 (e.map fun l => [PV.rd 1 (l.map encI)])], .rd 1 (l.map encI)]) T395 rfl rfl ?_
  unfold f395 x395
  by_cases h1 : (12 : Int) < w.length
  · simp only [↓sxP, sxQ, xai, xgo, xop, xG, AOp.touched, oldX, nwX, newX, xo, xput, refX, xbin, xint, loadP, loadX, ofC, xcells, xagg, Nat.blt, Value.oneCell', refsO, okGc, renO, rI, coX, Option.isSome, outS, outT, resX, tupX, lend1, lend0, scalX, xsb, pvX, zeroX, spliceG, xapp, xappP, xrd, eqP1, xstr, zpv, Nat.beq, Nat.ble, ↓reduceIte, Nat.reduceAdd, Nat.reduceLeDiff, Nat.reduceBEq, Nat.reduceEqDiff, Nat.reduceLT, Nat.reduceSub, Nat.reduceMul, Int.reduceLT, Int.reduceLE, Int.reduceAdd, Int.reduceSub, Int.reduceNeg, Int.reduceToNat, Int.reduceEq, reduceCtorEq, norm_cons, norm_nil, normB, pOwn, pSel, gcS, reach, addN, getO, live, gcH, maxEl, P400, awake_any, h1]
  · by_cases h2 : (12 : Int) < e.length
    · simp only [↓sxP, sxQ, xai, xgo, xop, xG, AOp.touched, oldX, nwX, newX, xo, xput, refX, xbin, xint, loadP, loadX, ofC, xcells, xagg, Nat.blt, Value.oneCell', refsO, okGc, renO, rI, coX, Option.isSome, outS, outT, resX, tupX, lend1, lend0, scalX, xsb, pvX, zeroX, spliceG, xapp, xappP, xrd, eqP1, xstr, zpv, Nat.beq, Nat.ble, ↓reduceIte, Nat.reduceAdd, Nat.reduceLeDiff, Nat.reduceBEq, Nat.reduceEqDiff, Nat.reduceLT, Nat.reduceSub, Nat.reduceMul, Int.reduceLT, Int.reduceLE, Int.reduceAdd, Int.reduceSub, Int.reduceNeg, Int.reduceToNat, Int.reduceEq, reduceCtorEq, norm_cons, norm_nil, normB, pOwn, pSel, gcS, reach, addN, getO, live, gcH, maxEl, P400, awake_any, h1, h2]
    · by_cases h3 : (12 : Int) < l.length
      · simp only [↓sxP, sxQ, xai, xgo, xop, xG, AOp.touched, oldX, nwX, newX, xo, xput, refX, xbin, xint, loadP, loadX, ofC, xcells, xagg, Nat.blt, Value.oneCell', refsO, okGc, renO, rI, coX, Option.isSome, outS, outT, resX, tupX, lend1, lend0, scalX, xsb, pvX, zeroX, spliceG, xapp, xappP, xrd, eqP1, xstr, zpv, Nat.beq, Nat.ble, ↓reduceIte, Nat.reduceAdd, Nat.reduceLeDiff, Nat.reduceBEq, Nat.reduceEqDiff, Nat.reduceLT, Nat.reduceSub, Nat.reduceMul, Int.reduceLT, Int.reduceLE, Int.reduceAdd, Int.reduceSub, Int.reduceNeg, Int.reduceToNat, Int.reduceEq, reduceCtorEq, norm_cons, norm_nil, normB, pOwn, pSel, gcS, reach, addN, getO, live, gcH, maxEl, P400, awake_any, h1, h2, h3]
      · have hcl : ∀ X, call XT 143 [.p (.rd 1 (l.map encI))] X = some (.p (.rd 1 (l.map encI)), X) := fun X => by
          refine call_prim T143 (ps := [.rd 1 (l.map encI)]) ?_
          have h4 : Nat.ble (l.map encI).length maxEl = true := by rw [List.length_map]; exact Nat.ble_eq_true_of_le (by unfold maxEl; omega)
          show (bif Nat.beq 1 1 && Nat.ble (l.map encI).length maxEl then some _ else none) = some _
          rw [h4]; rfl
        simp only [↓sxP, sxQ, xai, xgo, xop, xG, AOp.touched, oldX, nwX, newX, xo, xput, refX, xbin, xint, loadP, loadX, ofC, xcells, xagg, Nat.blt, Value.oneCell', refsO, okGc, renO, rI, coX, Option.isSome, outS, outT, resX, tupX, lend1, lend0, scalX, xsb, pvX, zeroX, spliceG, xapp, xappP, xrd, eqP1, xstr, zpv, Nat.beq, Nat.ble, ↓reduceIte, Nat.reduceAdd, Nat.reduceLeDiff, Nat.reduceBEq, Nat.reduceEqDiff, Nat.reduceLT, Nat.reduceSub, Nat.reduceMul, Int.reduceLT, Int.reduceLE, Int.reduceAdd, Int.reduceSub, Int.reduceNeg, Int.reduceToNat, Int.reduceEq, reduceCtorEq, norm_cons, norm_nil, normB, pOwn, pSel, gcS, reach, addN, getO, live, gcH, maxEl, P400, awake_any, h1, h2, h3, P143, hcl, P413, call413 w e l hw he hm hl, P405, call405 w e l hw he hm hl, P414, call414 w e l hl he hm, P410, call410 w e l hl he hm, beq_self_eq_true]
end Go.Abs

namespace Go.Abs
open Go
set_option linter.unusedSimpArgs false
set_option maxHeartbeats 1000000
set_option maxRecDepth 8000

theorem bit_and (c : Nat) (hc : c < 4294967296) : bits .and .i64 (c : Int) 1 = ((c % 2 : Nat) : Int) := by
  have h1 : BitVec.ofInt 64 (c : Int) = BitVec.ofNat 64 c := by simp
  have h2 : (BitVec.ofNat 64 c &&& BitVec.ofInt 64 1).toNat = c % 2 := by
    have : BitVec.ofInt 64 1 = BitVec.ofNat 64 1 := by decide
    rw [this, BitVec.toNat_and, BitVec.toNat_ofNat, BitVec.toNat_ofNat, Nat.mod_eq_of_lt (by omega : c < 2 ^ 64)]
    exact Nat.and_one_is_mod c
  show IntKind.wrap .i64 ((BitVec.ofInt 64 (c : Int) &&& BitVec.ofInt 64 1).toNat : Int) = _
  rw [h1, h2, wrap64 _ (by omega) (by omega)]

theorem fdiv_shr (b i : Nat) (hi : i ≤ 60) : (b : Int).fdiv (2 ^ (min i 64)) = ((b >>> i : Nat) : Int) := by
  have h1 : min i 64 = i := by omega
  rw [h1, Nat.shiftRight_eq_div_pow]
  have h2 : ((2 : Int) ^ i) = ((2 ^ i : Nat) : Int) := by simp
  rw [h2, Int.fdiv_eq_ediv_of_nonneg _ (Int.natCast_nonneg _)]; simp

/-- The numbers below n whose bits are set. -/
def subF (b : Nat) : Nat → List Int
  | 0 => []
  | n + 1 => subF b n ++ if (b >>> n) % 2 = 1 then [(n : Int)] else []
theorem subF_len (b : Nat) : ∀ n, (subF b n).length ≤ n
  | 0 => Nat.le_refl _
  | n + 1 => by have := subF_len b n; simp only [subF]; split <;> simp <;> omega

theorem l423 (b n : Nat) (hb : b < 4294967296) (hn : n ≤ 60) : ∀ m i : Nat, i + m = n →
    lp XT x423a1 x423b1 ⟨[(0, vI b), (1, vI n), (5, .ref 0 0 (subF b i).length), (6, vI i)], [some (.pu 1 ((subF b i).map encI))], 0⟩ =
      some (.exit 0, ⟨[(5, .ref 0 0 (subF b n).length)], [some (.pu 1 ((subF b n).map encI))], 0⟩) := by
  intro m
  induction m with
  | zero =>
    intro i h
    have h0 : i = n := by omega
    subst h0
    have h1 : ¬ (i : Int) < i := by omega
    rw [lp_nx]; conv => lhs; arg 1; unfold x423b1
    simp only [↓sxP, sxQ, xai, xgo, xop, xG, AOp.touched, oldX, nwX, newX, xo, xput, refX, xbin, xint, loadP, loadX, ofC, xcells, xagg, Nat.blt, Value.oneCell', refsO, okGc, renO, rI, coX, Option.isSome, outS, outT, resX, tupX, lend1, lend0, scalX, xsb, pvX, zeroX, spliceG, xapp, xappP, xrd, eqP1, xstr, zpv, Nat.beq, Nat.ble, ↓reduceIte, Nat.reduceAdd, Nat.reduceLeDiff, Nat.reduceBEq, Nat.reduceEqDiff, Nat.reduceLT, Nat.reduceSub, Nat.reduceMul, Int.reduceLT, Int.reduceLE, Int.reduceAdd, Int.reduceSub, Int.reduceNeg, Int.reduceToNat, Int.reduceEq, reduceCtorEq, norm_cons, norm_nil, normB, pOwn, pSel, gcS, reach, addN, getO, live, gcH, h1]
  | succ m ih =>
    intro i h
    have h1 : (i : Int) < n := by omega
    have h2 : b >>> i < 4294967296 := Nat.lt_of_le_of_lt (Nat.shiftRight_le _ _) hb
    have hs := subF_len b i
    have hf : IntKind.i64.bits = 64 := rfl
    have hm : (subF b i).length + 1 ≤ 1073741824 := by omega
    have hm' : (subF b i).length ≤ 1073741823 := by omega
    have ih' := ih (i + 1) (by omega)
    rw [lp_nx]; conv => lhs; arg 1; unfold x423b1
    by_cases h3 : (b >>> i) % 2 = 1
    · simp only [subF, h3, if_true, List.map_append, List.map_cons, List.map_nil, encI, List.length_append, List.length_cons, List.length_nil] at ih'
      simp only [↓sxP, sxQ, xai, xgo, xop, xG, AOp.touched, oldX, nwX, newX, xo, xput, refX, xbin, xint, loadP, loadX, ofC, xcells, xagg, Nat.blt, Value.oneCell', refsO, okGc, renO, rI, coX, Option.isSome, outS, outT, resX, tupX, lend1, lend0, scalX, xsb, pvX, zeroX, spliceG, xapp, xappP, xrd, eqP1, xstr, zpv, Nat.beq, Nat.ble, ↓reduceIte, Nat.reduceAdd, Nat.reduceLeDiff, Nat.reduceBEq, Nat.reduceEqDiff, Nat.reduceLT, Nat.reduceSub, Nat.reduceMul, Int.reduceLT, Int.reduceLE, Int.reduceAdd, Int.reduceSub, Int.reduceNeg, Int.reduceToNat, Int.reduceEq, reduceCtorEq, norm_cons, norm_nil, normB, pOwn, pSel, gcS, reach, addN, getO, live, gcH, h1, hf, fdiv_shr b i (by omega), bit_and _ h2, h3, Int.natCast_one, xappP, hm, hm', maxEl, List.set, x423a1n, wrap_succ (i := i) (by omega), List.mem_singleton, forall_eq, ih']
    · have h3' : (b >>> i) % 2 = 0 := by omega
      simp only [subF, h3, if_false, List.append_nil] at ih'
      have h4 : ¬ (((0 : Nat) : Int) = 1) := by omega
      simp only [↓sxP, sxQ, xai, xgo, xop, xG, AOp.touched, oldX, nwX, newX, xo, xput, refX, xbin, xint, loadP, loadX, ofC, xcells, xagg, Nat.blt, Value.oneCell', refsO, okGc, renO, rI, coX, Option.isSome, outS, outT, resX, tupX, lend1, lend0, scalX, xsb, pvX, zeroX, spliceG, xapp, xappP, xrd, eqP1, xstr, zpv, Nat.beq, Nat.ble, ↓reduceIte, Nat.reduceAdd, Nat.reduceLeDiff, Nat.reduceBEq, Nat.reduceEqDiff, Nat.reduceLT, Nat.reduceSub, Nat.reduceMul, Int.reduceLT, Int.reduceLE, Int.reduceAdd, Int.reduceSub, Int.reduceNeg, Int.reduceToNat, Int.reduceEq, reduceCtorEq, norm_cons, norm_nil, normB, pOwn, pSel, gcS, reach, addN, getO, live, gcH, h1, hf, fdiv_shr b i (by omega), bit_and _ h2, h3', h4, xappP, hm, hm', Nat.reduceSub, maxEl, List.mem_singleton, forall_eq, x423a1n, wrap_succ (i := i) (by omega), ih']

theorem call423 (b n : Nat) (hb : b < 4294967296) (hn : n ≤ 60) (X : XHeap) : call XT 423 [vI b, vI n] X = some (.p (.rd 1 ((subF b n).map encI)), X) := by
  refine call_pure (F := f423) (args := [pI b, pI n]) T423 rfl rfl ?_
  unfold f423 x423
  have k1 := l423 b n hb hn n 0 (by omega)
  simp only [subF, List.map_nil, List.length_nil, Int.natCast_zero] at k1
  simp only [↓sxP, sxQ, xai, xgo, xop, xG, AOp.touched, oldX, nwX, newX, xo, xput, refX, xbin, xint, loadP, loadX, ofC, xcells, xagg, Nat.blt, Value.oneCell', refsO, okGc, renO, rI, coX, Option.isSome, outS, outT, resX, tupX, lend1, lend0, scalX, xsb, pvX, zeroX, spliceG, xapp, xappP, xrd, eqP1, xstr, zpv, Nat.beq, Nat.ble, ↓reduceIte, Nat.reduceAdd, Nat.reduceLeDiff, Nat.reduceBEq, Nat.reduceEqDiff, Nat.reduceLT, Nat.reduceSub, Nat.reduceMul, Int.reduceLT, Int.reduceLE, Int.reduceAdd, Int.reduceSub, Int.reduceNeg, Int.reduceToNat, Int.reduceEq, reduceCtorEq, norm_cons, norm_nil, normB, pOwn, pSel, gcS, reach, addN, getO, live, gcH, x423a1n, k1, take_map, List.take_length]
end Go.Abs
