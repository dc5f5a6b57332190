/- Right of chapter 39, of the reference. No condition. -/
import Derived.Test.YtgegamaadohibaaHk
namespace Go.Abs
open Go
set_option linter.unusedSimpArgs false
set_option maxHeartbeats 2000000
set_option maxRecDepth 8000
def encSI (s : Int × Int) : List PV := [pI s.1, pI s.2]

/-- Are the shares possible? Then their sum. -/
def rightA (e : List (List Int)) (c : List Int) : List (Int × Int) → Int → Option Int
  | [], s => some s
  | y :: r, s => if y.1 < 0 ∨ (e.length : Int) ≤ y.1 ∨ y.2 < 1 ∨ 1000000000000 < y.2 ∨ meet (e.getD y.1.toNat []) c = true then none else rightA e c r (IntKind.i64.wrap (s + y.2))

theorem get_edge {e : List (List Int)} {n : Nat} (h : n < e.length) : e[n]? = some (e.getD n []) := by simp [h]

theorem l416_1 (w : List Int) (e : List (List Int)) (c x : List Int) (bound : Int) (sh : List (Int × Int)) (hs : sh.length ≤ 1048576) (hm : ∀ a ∈ e, a.length ≤ 1048576) (hc : c.length ≤ 1048576) : ∀ m i : Nat, ∀ s : Int, i + m = sh.length →
    lp XT x416a1 x416b1 ⟨[(2, .p (.rd 2 (sh.map encSI))), (3, .ptr 0 0 0), (4, .ptr 1 0 0), (7, vI s), (8, vI i)], [some (.mx 2 [[.p (.rd 1 (w.map encI)), .p (.rd 1 (e.map fun l => [PV.rd 1 (l.map encI)]))]]), some (.mx 3 [[.p (.rd 1 (c.map encI)), .p (.rd 1 (x.map encI)), vI bound]])], 0⟩ =
      match rightA e c (sh.drop i) s with | some t => some (.exit 0, ⟨[(2, .p (.rd 2 (sh.map encSI))), (3, .ptr 0 0 0), (4, .ptr 1 0 0), (7, vI t)], [some (.mx 2 [[.p (.rd 1 (w.map encI)), .p (.rd 1 (e.map fun l => [PV.rd 1 (l.map encI)]))]]), some (.mx 3 [[.p (.rd 1 (c.map encI)), .p (.rd 1 (x.map encI)), vI bound]])], 0⟩) | none => some (.ret, ⟨[(6, vB false)], [], 0⟩) := by
  intro m
  induction m with
  | zero =>
    intro i s h
    have h1 : ¬ (i : Int) < sh.length := by omega
    have h2 : sh.drop i = [] := List.drop_of_length_le (by omega)
    rw [lp_nx]; conv => lhs; arg 1; unfold x416b1
    simp only [↓sxP, sxQ, xai, xgo, xop, xG, AOp.touched, oldX, nwX, newX, xo, xput, refX, xbin, xint, loadP, loadX, ofC, xcells, xagg, Nat.blt, Value.oneCell', refsO, okGc, renO, rI, coX, Option.isSome, outS, outT, resX, tupX, lend1, lend0, scalX, xsb, pvX, zeroX, spliceG, xapp, xappP, xrd, eqP1, xstr, zpv, Nat.beq, Nat.ble, ↓reduceIte, Nat.reduceAdd, Nat.reduceLeDiff, Nat.reduceBEq, Nat.reduceEqDiff, Nat.reduceLT, Nat.reduceSub, Nat.reduceMul, Int.reduceLT, Int.reduceLE, Int.reduceAdd, Int.reduceSub, Int.reduceNeg, Int.reduceToNat, Int.reduceEq, reduceCtorEq, norm_cons, norm_nil, normB, pOwn, pSel, gcS, reach, addN, getO, live, gcH, h1, h2, rightA]
  | succ m ih =>
    intro i s h
    have hi : i < sh.length := by omega
    have h1 : (i : Int) < sh.length := by omega
    have hd := drop_cons hi
    rw [lp_nx]; conv => lhs; arg 1; unfold x416b1
    by_cases h2 : sh[i].1 < 0
    · simp only [↓sxP, sxQ, xai, xgo, xop, xG, AOp.touched, oldX, nwX, newX, xo, xput, refX, xbin, xint, loadP, loadX, ofC, xcells, xagg, Nat.blt, Value.oneCell', refsO, okGc, renO, rI, coX, Option.isSome, outS, outT, resX, tupX, lend1, lend0, scalX, xsb, pvX, zeroX, spliceG, xapp, xappP, xrd, eqP1, xstr, zpv, Nat.beq, Nat.ble, ↓reduceIte, Nat.reduceAdd, Nat.reduceLeDiff, Nat.reduceBEq, Nat.reduceEqDiff, Nat.reduceLT, Nat.reduceSub, Nat.reduceMul, Int.reduceLT, Int.reduceLE, Int.reduceAdd, Int.reduceSub, Int.reduceNeg, Int.reduceToNat, Int.reduceEq, reduceCtorEq, norm_cons, norm_nil, normB, pOwn, pSel, gcS, reach, addN, getO, live, gcH, h1, get_some hi, encSI, hd, rightA, h2]
    · by_cases h3 : (e.length : Int) ≤ sh[i].1
      · simp only [↓sxP, sxQ, xai, xgo, xop, xG, AOp.touched, oldX, nwX, newX, xo, xput, refX, xbin, xint, loadP, loadX, ofC, xcells, xagg, Nat.blt, Value.oneCell', refsO, okGc, renO, rI, coX, Option.isSome, outS, outT, resX, tupX, lend1, lend0, scalX, xsb, pvX, zeroX, spliceG, xapp, xappP, xrd, eqP1, xstr, zpv, Nat.beq, Nat.ble, ↓reduceIte, Nat.reduceAdd, Nat.reduceLeDiff, Nat.reduceBEq, Nat.reduceEqDiff, Nat.reduceLT, Nat.reduceSub, Nat.reduceMul, Int.reduceLT, Int.reduceLE, Int.reduceAdd, Int.reduceSub, Int.reduceNeg, Int.reduceToNat, Int.reduceEq, reduceCtorEq, norm_cons, norm_nil, normB, pOwn, pSel, gcS, reach, addN, getO, live, gcH, h1, get_some hi, encSI, hd, rightA, h2, h3]
      · by_cases h4 : sh[i].2 < 1
        · simp only [↓sxP, sxQ, xai, xgo, xop, xG, AOp.touched, oldX, nwX, newX, xo, xput, refX, xbin, xint, loadP, loadX, ofC, xcells, xagg, Nat.blt, Value.oneCell', refsO, okGc, renO, rI, coX, Option.isSome, outS, outT, resX, tupX, lend1, lend0, scalX, xsb, pvX, zeroX, spliceG, xapp, xappP, xrd, eqP1, xstr, zpv, Nat.beq, Nat.ble, ↓reduceIte, Nat.reduceAdd, Nat.reduceLeDiff, Nat.reduceBEq, Nat.reduceEqDiff, Nat.reduceLT, Nat.reduceSub, Nat.reduceMul, Int.reduceLT, Int.reduceLE, Int.reduceAdd, Int.reduceSub, Int.reduceNeg, Int.reduceToNat, Int.reduceEq, reduceCtorEq, norm_cons, norm_nil, normB, pOwn, pSel, gcS, reach, addN, getO, live, gcH, h1, get_some hi, encSI, hd, rightA, h2, h3, h4]
        · by_cases h5 : 1000000000000 < sh[i].2
          · simp only [↓sxP, sxQ, xai, xgo, xop, xG, AOp.touched, oldX, nwX, newX, xo, xput, refX, xbin, xint, loadP, loadX, ofC, xcells, xagg, Nat.blt, Value.oneCell', refsO, okGc, renO, rI, coX, Option.isSome, outS, outT, resX, tupX, lend1, lend0, scalX, xsb, pvX, zeroX, spliceG, xapp, xappP, xrd, eqP1, xstr, zpv, Nat.beq, Nat.ble, ↓reduceIte, Nat.reduceAdd, Nat.reduceLeDiff, Nat.reduceBEq, Nat.reduceEqDiff, Nat.reduceLT, Nat.reduceSub, Nat.reduceMul, Int.reduceLT, Int.reduceLE, Int.reduceAdd, Int.reduceSub, Int.reduceNeg, Int.reduceToNat, Int.reduceEq, reduceCtorEq, norm_cons, norm_nil, normB, pOwn, pSel, gcS, reach, addN, getO, live, gcH, h1, get_some hi, encSI, hd, rightA, h2, h3, h4, h5]
          · have h6 : e[sh[i].1.toNat]? = some (e.getD sh[i].1.toNat []) := get_edge (by omega)
            have h7 : 0 ≤ sh[i].1 := by omega
            have h8 : sh[i].1 < (e.length : Int) := by omega
            have h9 : (e.getD sh[i].1.toNat []).length ≤ 1048576 := hm _ (List.mem_of_getElem? h6)
            have hcl := fun X => call431 (e.getD sh[i].1.toNat []) c h9 hc X
            by_cases h10 : meet (e.getD sh[i].1.toNat []) c = true
            · simp only [↓sxP, sxQ, xai, xgo, xop, xG, AOp.touched, oldX, nwX, newX, xo, xput, refX, xbin, xint, loadP, loadX, ofC, xcells, xagg, Nat.blt, Value.oneCell', refsO, okGc, renO, rI, coX, Option.isSome, outS, outT, resX, tupX, lend1, lend0, scalX, xsb, pvX, zeroX, spliceG, xapp, xappP, xrd, eqP1, xstr, zpv, Nat.beq, Nat.ble, ↓reduceIte, Nat.reduceAdd, Nat.reduceLeDiff, Nat.reduceBEq, Nat.reduceEqDiff, Nat.reduceLT, Nat.reduceSub, Nat.reduceMul, Int.reduceLT, Int.reduceLE, Int.reduceAdd, Int.reduceSub, Int.reduceNeg, Int.reduceToNat, Int.reduceEq, reduceCtorEq, norm_cons, norm_nil, normB, pOwn, pSel, gcS, reach, addN, getO, live, gcH, h1, get_some hi, encSI, hd, rightA, h2, h3, h4, h5, h6, h7, h8, P431, hcl, h10]
            · have h10' : meet (e.getD sh[i].1.toNat []) c = false := by simpa using h10
              simp only [↓sxP, sxQ, xai, xgo, xop, xG, AOp.touched, oldX, nwX, newX, xo, xput, refX, xbin, xint, loadP, loadX, ofC, xcells, xagg, Nat.blt, Value.oneCell', refsO, okGc, renO, rI, coX, Option.isSome, outS, outT, resX, tupX, lend1, lend0, scalX, xsb, pvX, zeroX, spliceG, xapp, xappP, xrd, eqP1, xstr, zpv, Nat.beq, Nat.ble, ↓reduceIte, Nat.reduceAdd, Nat.reduceLeDiff, Nat.reduceBEq, Nat.reduceEqDiff, Nat.reduceLT, Nat.reduceSub, Nat.reduceMul, Int.reduceLT, Int.reduceLE, Int.reduceAdd, Int.reduceSub, Int.reduceNeg, Int.reduceToNat, Int.reduceEq, reduceCtorEq, norm_cons, norm_nil, normB, pOwn, pSel, gcS, reach, addN, getO, live, gcH, h1, get_some hi, encSI, hd, rightA, h2, h3, h4, h5, h6, h7, h8, P431, hcl, h10', x416a1n, wrap_succ (i := i) (by omega)]
              have ih' := ih (i + 1) (IntKind.i64.wrap (s + sh[i].2)) (by omega)
              simpa only [encSI] using ih'
end Go.Abs

namespace Go.Abs
open Go
set_option linter.unusedSimpArgs false
set_option maxHeartbeats 2000000
set_option maxRecDepth 8000

/-- How much the shares take of a vertex, as it is reckoned. -/
def loadW (e : List (List Int)) (v : Int) : List (Int × Int) → Int → Int
  | [], acc => acc
  | y :: r, acc => loadW e v r (if v ∈ e.getD y.1.toNat [] then IntKind.i64.wrap (acc + y.2) else acc)

theorem l416_2 (w : List Int) (e : List (List Int)) (c x : List Int) (bound : Int) (sh : List (Int × Int)) (hs : sh.length ≤ 1048576) (hm : ∀ a ∈ e, a.length ≤ 1048576)
    (hv : ∀ y ∈ sh, 0 ≤ y.1 ∧ y.1.toNat < e.length) (s : Int) (v : Nat) : ∀ m i : Nat, ∀ acc : Int, i + m = sh.length →
    lp XT x416a2 x416b2 ⟨[(2, .p (.rd 2 (sh.map encSI))), (3, .ptr 0 0 0), (4, .ptr 1 0 0), (7, vI s), (9, vI v), (10, vI acc), (11, vI i)], [some (.mx 2 [[.p (.rd 1 (w.map encI)), .p (.rd 1 (e.map fun l => [PV.rd 1 (l.map encI)]))]]), some (.mx 3 [[.p (.rd 1 (c.map encI)), .p (.rd 1 (x.map encI)), vI bound]])], 0⟩ =
      some (.exit 4, ⟨[(2, .p (.rd 2 (sh.map encSI))), (3, .ptr 0 0 0), (4, .ptr 1 0 0), (7, vI s), (9, vI v), (10, vI (loadW e v (sh.drop i) acc))], [some (.mx 2 [[.p (.rd 1 (w.map encI)), .p (.rd 1 (e.map fun l => [PV.rd 1 (l.map encI)]))]]), some (.mx 3 [[.p (.rd 1 (c.map encI)), .p (.rd 1 (x.map encI)), vI bound]])], 0⟩) := by
  intro m
  induction m with
  | zero =>
    intro i acc h
    have h1 : ¬ (i : Int) < sh.length := by omega
    have h2 : sh.drop i = [] := List.drop_of_length_le (by omega)
    rw [lp_nx]; conv => lhs; arg 1; unfold x416b2
    simp only [↓sxP, sxQ, xai, xgo, xop, xG, AOp.touched, oldX, nwX, newX, xo, xput, refX, xbin, xint, loadP, loadX, ofC, xcells, xagg, Nat.blt, Value.oneCell', refsO, okGc, renO, rI, coX, Option.isSome, outS, outT, resX, tupX, lend1, lend0, scalX, xsb, pvX, zeroX, spliceG, xapp, xappP, xrd, eqP1, xstr, zpv, Nat.beq, Nat.ble, ↓reduceIte, Nat.reduceAdd, Nat.reduceLeDiff, Nat.reduceBEq, Nat.reduceEqDiff, Nat.reduceLT, Nat.reduceSub, Nat.reduceMul, Int.reduceLT, Int.reduceLE, Int.reduceAdd, Int.reduceSub, Int.reduceNeg, Int.reduceToNat, Int.reduceEq, reduceCtorEq, norm_cons, norm_nil, normB, pOwn, pSel, gcS, reach, addN, getO, live, gcH, h1, h2, loadW]
  | succ m ih =>
    intro i acc h
    have hi : i < sh.length := by omega
    have h1 : (i : Int) < sh.length := by omega
    have hd := drop_cons hi
    have hvi := hv sh[i] (List.getElem_mem hi)
    have h6 : e[sh[i].1.toNat]? = some (e.getD sh[i].1.toNat []) := get_edge (by omega)
    have h7 : 0 ≤ sh[i].1 := hvi.1
    have h8 : sh[i].1 < (e.length : Int) := by omega
    have h9 : (e.getD sh[i].1.toNat []).length ≤ 1048576 := hm _ (List.mem_of_getElem? h6)
    have hcl := fun X => call428 (v : Int) (e.getD sh[i].1.toNat []) h9 X
    rw [lp_nx]; conv => lhs; arg 1; unfold x416b2
    by_cases h10 : (v : Int) ∈ e.getD sh[i].1.toNat []
    · simp only [↓sxP, sxQ, xai, xgo, xop, xG, AOp.touched, oldX, nwX, newX, xo, xput, refX, xbin, xint, loadP, loadX, ofC, xcells, xagg, Nat.blt, Value.oneCell', refsO, okGc, renO, rI, coX, Option.isSome, outS, outT, resX, tupX, lend1, lend0, scalX, xsb, pvX, zeroX, spliceG, xapp, xappP, xrd, eqP1, xstr, zpv, Nat.beq, Nat.ble, ↓reduceIte, Nat.reduceAdd, Nat.reduceLeDiff, Nat.reduceBEq, Nat.reduceEqDiff, Nat.reduceLT, Nat.reduceSub, Nat.reduceMul, Int.reduceLT, Int.reduceLE, Int.reduceAdd, Int.reduceSub, Int.reduceNeg, Int.reduceToNat, Int.reduceEq, reduceCtorEq, norm_cons, norm_nil, normB, pOwn, pSel, gcS, reach, addN, getO, live, gcH, h1, get_some hi, encSI, hd, loadW, h6, h7, h8, P428, hcl, h10, x416a2n, wrap_succ (i := i) (by omega)]
      have ih' := ih (i + 1) (IntKind.i64.wrap (acc + sh[i].2)) (by omega)
      simpa only [encSI] using ih'
    · simp only [↓sxP, sxQ, xai, xgo, xop, xG, AOp.touched, oldX, nwX, newX, xo, xput, refX, xbin, xint, loadP, loadX, ofC, xcells, xagg, Nat.blt, Value.oneCell', refsO, okGc, renO, rI, coX, Option.isSome, outS, outT, resX, tupX, lend1, lend0, scalX, xsb, pvX, zeroX, spliceG, xapp, xappP, xrd, eqP1, xstr, zpv, Nat.beq, Nat.ble, ↓reduceIte, Nat.reduceAdd, Nat.reduceLeDiff, Nat.reduceBEq, Nat.reduceEqDiff, Nat.reduceLT, Nat.reduceSub, Nat.reduceMul, Int.reduceLT, Int.reduceLE, Int.reduceAdd, Int.reduceSub, Int.reduceNeg, Int.reduceToNat, Int.reduceEq, reduceCtorEq, norm_cons, norm_nil, normB, pOwn, pSel, gcS, reach, addN, getO, live, gcH, h1, get_some hi, encSI, hd, loadW, h6, h7, h8, P428, hcl, h10, x416a2n, wrap_succ (i := i) (by omega)]
      have ih' := ih (i + 1) acc (by omega)
      simpa only [encSI] using ih'

/-- Is no vertex taken too much of? -/
def rightV (w : List Int) (e : List (List Int)) (x : List Int) (sh : List (Int × Int)) : List Int → Nat → Bool
  | [], _ => true
  | u :: r, v => if u < loadW e v sh 0 ∧ ¬ (v : Int) ∈ x then false else rightV w e x sh r (v + 1)

theorem l416_3 (w : List Int) (e : List (List Int)) (c x : List Int) (bound : Int) (sh : List (Int × Int)) (hs : sh.length ≤ 1048576) (hm : ∀ a ∈ e, a.length ≤ 1048576) (hw : w.length ≤ 1048576) (hx : x.length ≤ 1048576)
    (hv : ∀ y ∈ sh, 0 ≤ y.1 ∧ y.1.toNat < e.length) (s : Int) : ∀ m i : Nat, i + m = w.length →
    lp XT x416a3 x416b3 ⟨[(2, .p (.rd 2 (sh.map encSI))), (3, .ptr 0 0 0), (4, .ptr 1 0 0), (7, vI s), (9, vI i)], [some (.mx 2 [[.p (.rd 1 (w.map encI)), .p (.rd 1 (e.map fun l => [PV.rd 1 (l.map encI)]))]]), some (.mx 3 [[.p (.rd 1 (c.map encI)), .p (.rd 1 (x.map encI)), vI bound]])], 0⟩ =
      if rightV w e x sh (w.drop i) i then some (.exit 2, ⟨[(4, .ptr 0 0 0), (7, vI s)], [some (.mx 3 [[.p (.rd 1 (c.map encI)), .p (.rd 1 (x.map encI)), vI bound]])], 0⟩) else some (.ret, ⟨[(6, vB false)], [], 0⟩) := by
  intro m
  induction m with
  | zero =>
    intro i h
    have h1 : ¬ (i : Int) < w.length := by omega
    have h2 : w.drop i = [] := List.drop_of_length_le (by omega)
    rw [lp_nx]; conv => lhs; arg 1; unfold x416b3
    simp only [↓sxP, sxQ, xai, xgo, xop, xG, AOp.touched, oldX, nwX, newX, xo, xput, refX, xbin, xint, loadP, loadX, ofC, xcells, xagg, Nat.blt, Value.oneCell', refsO, okGc, renO, rI, coX, Option.isSome, outS, outT, resX, tupX, lend1, lend0, scalX, xsb, pvX, zeroX, spliceG, xapp, xappP, xrd, eqP1, xstr, zpv, Nat.beq, Nat.ble, ↓reduceIte, Nat.reduceAdd, Nat.reduceLeDiff, Nat.reduceBEq, Nat.reduceEqDiff, Nat.reduceLT, Nat.reduceSub, Nat.reduceMul, Int.reduceLT, Int.reduceLE, Int.reduceAdd, Int.reduceSub, Int.reduceNeg, Int.reduceToNat, Int.reduceEq, reduceCtorEq, norm_cons, norm_nil, normB, pOwn, pSel, gcS, reach, addN, getO, live, gcH, h1, h2, rightV]
  | succ m ih =>
    intro i h
    have hi : i < w.length := by omega
    have h1 : (i : Int) < w.length := by omega
    have hd := drop_cons hi
    have k1 := l416_2 w e c x bound sh hs hm hv s i sh.length 0 0 (by omega)
    simp only [List.drop_zero, Int.natCast_zero] at k1
    have hcl := fun X => call428 (i : Int) x hx X
    rw [lp_nx]; conv => lhs; arg 1; unfold x416b3
    by_cases h2 : w[i] < loadW e i sh 0
    · by_cases h3 : (i : Int) ∈ x
      · simp only [↓sxP, sxQ, xai, xgo, xop, xG, AOp.touched, oldX, nwX, newX, xo, xput, refX, xbin, xint, loadP, loadX, ofC, xcells, xagg, Nat.blt, Value.oneCell', refsO, okGc, renO, rI, coX, Option.isSome, outS, outT, resX, tupX, lend1, lend0, scalX, xsb, pvX, zeroX, spliceG, xapp, xappP, xrd, eqP1, xstr, zpv, Nat.beq, Nat.ble, ↓reduceIte, Nat.reduceAdd, Nat.reduceLeDiff, Nat.reduceBEq, Nat.reduceEqDiff, Nat.reduceLT, Nat.reduceSub, Nat.reduceMul, Int.reduceLT, Int.reduceLE, Int.reduceAdd, Int.reduceSub, Int.reduceNeg, Int.reduceToNat, Int.reduceEq, reduceCtorEq, norm_cons, norm_nil, normB, pOwn, pSel, gcS, reach, addN, getO, live, gcH, h1, get_some hi, encI, hd, rightV, x416a2n, k1, h2, h3, P428, hcl, not_true, x416a3n, wrap_succ (i := i) (by omega), ih (i + 1) (by omega), and_false]
      · simp only [↓sxP, sxQ, xai, xgo, xop, xG, AOp.touched, oldX, nwX, newX, xo, xput, refX, xbin, xint, loadP, loadX, ofC, xcells, xagg, Nat.blt, Value.oneCell', refsO, okGc, renO, rI, coX, Option.isSome, outS, outT, resX, tupX, lend1, lend0, scalX, xsb, pvX, zeroX, spliceG, xapp, xappP, xrd, eqP1, xstr, zpv, Nat.beq, Nat.ble, ↓reduceIte, Nat.reduceAdd, Nat.reduceLeDiff, Nat.reduceBEq, Nat.reduceEqDiff, Nat.reduceLT, Nat.reduceSub, Nat.reduceMul, Int.reduceLT, Int.reduceLE, Int.reduceAdd, Int.reduceSub, Int.reduceNeg, Int.reduceToNat, Int.reduceEq, reduceCtorEq, norm_cons, norm_nil, normB, pOwn, pSel, gcS, reach, addN, getO, live, gcH, h1, get_some hi, encI, hd, rightV, x416a2n, k1, h2, h3, P428, hcl, not_false_iff, x416a3n]
    · simp only [↓sxP, sxQ, xai, xgo, xop, xG, AOp.touched, oldX, nwX, newX, xo, xput, refX, xbin, xint, loadP, loadX, ofC, xcells, xagg, Nat.blt, Value.oneCell', refsO, okGc, renO, rI, coX, Option.isSome, outS, outT, resX, tupX, lend1, lend0, scalX, xsb, pvX, zeroX, spliceG, xapp, xappP, xrd, eqP1, xstr, zpv, Nat.beq, Nat.ble, ↓reduceIte, Nat.reduceAdd, Nat.reduceLeDiff, Nat.reduceBEq, Nat.reduceEqDiff, Nat.reduceLT, Nat.reduceSub, Nat.reduceMul, Int.reduceLT, Int.reduceLE, Int.reduceAdd, Int.reduceSub, Int.reduceNeg, Int.reduceToNat, Int.reduceEq, reduceCtorEq, norm_cons, norm_nil, normB, pOwn, pSel, gcS, reach, addN, getO, live, gcH, h1, get_some hi, encI, hd, rightV, x416a2n, k1, h2, false_and, x416a3n, wrap_succ (i := i) (by omega), ih (i + 1) (by omega)]
end Go.Abs

namespace Go.Abs
open Go
set_option linter.unusedSimpArgs false
set_option maxHeartbeats 2000000
set_option maxRecDepth 8000

/-- What 'Right' answers. -/
def rightI (w : List Int) (e : List (List Int)) (c x : List Int) (bound : Int) (sh : List (Int × Int)) : Bool :=
  if 10000 < sh.length then false else match rightA e c sh 0 with
    | none => false
    | some t => if rightV w e x sh w 0 = true then decide (bound ≤ t) else false

theorem rightA_idx (e : List (List Int)) (c : List Int) : ∀ (sh : List (Int × Int)) (s t : Int), rightA e c sh s = some t → ∀ y ∈ sh, 0 ≤ y.1 ∧ y.1.toNat < e.length
  | [], _, _, _, y, hy => by cases hy
  | z :: r, s, t, h, y, hy => by
    simp only [rightA] at h
    split at h
    · cases h
    · rename_i h1
      rcases List.mem_cons.1 hy with rfl | hy
      · omega
      · exact rightA_idx e c r _ t h y hy

theorem call416 (w : List Int) (e : List (List Int)) (c x : List Int) (bound : Int) (sh : List (Int × Int)) (hs : sh.length ≤ 1048576) (hm : ∀ a ∈ e, a.length ≤ 1048576) (hc : c.length ≤ 1048576) (hw : w.length ≤ 1048576) (hx : x.length ≤ 1048576) (X : XHeap) :
    call XT 416 [.p (PV.agg [.rd 1 (w.map encI), .rd 1 (e.map fun l => [PV.rd 1 (l.map encI)])]), .p (PV.agg [.rd 1 (c.map encI), .rd 1 (x.map encI), pI bound]), .p (.rd 2 (sh.map encSI))] X = some (vB (rightI w e c x bound sh), X) := by
  refine call_pure (F := f416) (args := [PV.agg [.rd 1 (w.map encI), .rd 1 (e.map fun l => [PV.rd 1 (l.map encI)])], PV.agg [.rd 1 (c.map encI), .rd 1 (x.map encI), pI bound], .rd 2 (sh.map encSI)]) T416 rfl rfl ?_
  unfold f416 x416
  by_cases h1 : (10000 : Int) < sh.length
  · have h1' : 10000 < sh.length := by omega
    simp only [↓sxP, sxQ, xai, xgo, xop, xG, AOp.touched, oldX, nwX, newX, xo, xput, refX, xbin, xint, loadP, loadX, ofC, xcells, xagg, Nat.blt, Value.oneCell', refsO, okGc, renO, rI, coX, Option.isSome, outS, outT, resX, tupX, lend1, lend0, scalX, xsb, pvX, zeroX, spliceG, xapp, xappP, xrd, eqP1, xstr, zpv, Nat.beq, Nat.ble, ↓reduceIte, Nat.reduceAdd, Nat.reduceLeDiff, Nat.reduceBEq, Nat.reduceEqDiff, Nat.reduceLT, Nat.reduceSub, Nat.reduceMul, Int.reduceLT, Int.reduceLE, Int.reduceAdd, Int.reduceSub, Int.reduceNeg, Int.reduceToNat, Int.reduceEq, reduceCtorEq, norm_cons, norm_nil, normB, pOwn, pSel, gcS, reach, addN, getO, live, gcH, maxEl, h1, rightI, h1']
  · have h1' : ¬ 10000 < sh.length := by omega
    have k1 := l416_1 w e c x bound sh hs hm hc sh.length 0 0 (by omega)
    simp only [List.drop_zero, Int.natCast_zero] at k1
    cases h2 : rightA e c sh 0 with
    | none =>
      rw [h2] at k1
      simp only [↓sxP, sxQ, xai, xgo, xop, xG, AOp.touched, oldX, nwX, newX, xo, xput, refX, xbin, xint, loadP, loadX, ofC, xcells, xagg, Nat.blt, Value.oneCell', refsO, okGc, renO, rI, coX, Option.isSome, outS, outT, resX, tupX, lend1, lend0, scalX, xsb, pvX, zeroX, spliceG, xapp, xappP, xrd, eqP1, xstr, zpv, Nat.beq, Nat.ble, ↓reduceIte, Nat.reduceAdd, Nat.reduceLeDiff, Nat.reduceBEq, Nat.reduceEqDiff, Nat.reduceLT, Nat.reduceSub, Nat.reduceMul, Int.reduceLT, Int.reduceLE, Int.reduceAdd, Int.reduceSub, Int.reduceNeg, Int.reduceToNat, Int.reduceEq, reduceCtorEq, norm_cons, norm_nil, normB, pOwn, pSel, gcS, reach, addN, getO, live, gcH, maxEl, h1, rightI, h1', x416a1n, k1, h2]
    | some t =>
      rw [h2] at k1
      have k2 := l416_3 w e c x bound sh hs hm hw hx (rightA_idx e c sh 0 t h2) t w.length 0 (by omega)
      simp only [List.drop_zero, Int.natCast_zero] at k2
      by_cases h3 : rightV w e x sh w 0 = true
      · rw [if_pos h3] at k2
        simp only [↓sxP, sxQ, xai, xgo, xop, xG, AOp.touched, oldX, nwX, newX, xo, xput, refX, xbin, xint, loadP, loadX, ofC, xcells, xagg, Nat.blt, Value.oneCell', refsO, okGc, renO, rI, coX, Option.isSome, outS, outT, resX, tupX, lend1, lend0, scalX, xsb, pvX, zeroX, spliceG, xapp, xappP, xrd, eqP1, xstr, zpv, Nat.beq, Nat.ble, ↓reduceIte, Nat.reduceAdd, Nat.reduceLeDiff, Nat.reduceBEq, Nat.reduceEqDiff, Nat.reduceLT, Nat.reduceSub, Nat.reduceMul, Int.reduceLT, Int.reduceLE, Int.reduceAdd, Int.reduceSub, Int.reduceNeg, Int.reduceToNat, Int.reduceEq, reduceCtorEq, norm_cons, norm_nil, normB, pOwn, pSel, gcS, reach, addN, getO, live, gcH, maxEl, h1, rightI, h1', x416a1n, k1, h2, x416a3n, k2, h3]
      · rw [if_neg h3] at k2
        simp only [↓sxP, sxQ, xai, xgo, xop, xG, AOp.touched, oldX, nwX, newX, xo, xput, refX, xbin, xint, loadP, loadX, ofC, xcells, xagg, Nat.blt, Value.oneCell', refsO, okGc, renO, rI, coX, Option.isSome, outS, outT, resX, tupX, lend1, lend0, scalX, xsb, pvX, zeroX, spliceG, xapp, xappP, xrd, eqP1, xstr, zpv, Nat.beq, Nat.ble, ↓reduceIte, Nat.reduceAdd, Nat.reduceLeDiff, Nat.reduceBEq, Nat.reduceEqDiff, Nat.reduceLT, Nat.reduceSub, Nat.reduceMul, Int.reduceLT, Int.reduceLE, Int.reduceAdd, Int.reduceSub, Int.reduceNeg, Int.reduceToNat, Int.reduceEq, reduceCtorEq, norm_cons, norm_nil, normB, pOwn, pSel, gcS, reach, addN, getO, live, gcH, maxEl, h1, rightI, h1', x416a1n, k1, h2, x416a3n, k2, h3]
end Go.Abs

namespace Go.Abs
open Go
set_option linter.unusedSimpArgs false
set_option maxHeartbeats 2000000
set_option maxRecDepth 8000
def sumW : List (Nat × Int) → Int → Int
  | [], acc => acc
  | y :: r, acc => sumW r (IntKind.i64.wrap (acc + y.2))
theorem l396 (w : List Int) (e : List (List Int)) (sh : List (Nat × Int)) (hs : sh.length ≤ 1048576) (s er : Int) : ∀ m i : Nat, ∀ acc : Int, i + m = sh.length →
    lp XT x396a1 x396b1 ⟨[(3, .ptr 0 0 0), (5, .p (.rd 2 (sh.map encS))), (6, vI s), (7, vI er), (8, vI acc), (29, .p (.rd 2 (sh.map encS))), (30, vI sh.length), (31, vI i)], [some (.mx 2 [[.p (.rd 1 (w.map encI)), .p (.rd 1 (e.map fun l => [PV.rd 1 (l.map encI)]))]])], 0⟩ =
      some (.exit 0, ⟨[(3, .ptr 0 0 0), (5, .p (.rd 2 (sh.map encS))), (6, vI s), (7, vI er), (8, vI (sumW (sh.drop i) acc))], [some (.mx 2 [[.p (.rd 1 (w.map encI)), .p (.rd 1 (e.map fun l => [PV.rd 1 (l.map encI)]))]])], 0⟩) := by
  intro m
  induction m with
  | zero =>
    intro i acc h
    have h1 : ¬ (i : Int) < sh.length := by omega
    have h2 : sh.drop i = [] := List.drop_of_length_le (by omega)
    rw [lp_nx]; conv => lhs; arg 1; unfold x396b1
    simp only [↓sxP, sxQ, xai, xgo, xop, xG, AOp.touched, oldX, nwX, newX, xo, xput, refX, xbin, xint, loadP, loadX, ofC, xcells, xagg, Nat.blt, Value.oneCell', refsO, okGc, renO, rI, coX, Option.isSome, outS, outT, resX, tupX, lend1, lend0, scalX, xsb, pvX, zeroX, spliceG, xapp, xappP, xrd, eqP1, xstr, zpv, Nat.beq, Nat.ble, ↓reduceIte, Nat.reduceAdd, Nat.reduceLeDiff, Nat.reduceBEq, Nat.reduceEqDiff, Nat.reduceLT, Nat.reduceSub, Nat.reduceMul, Int.reduceLT, Int.reduceLE, Int.reduceAdd, Int.reduceSub, Int.reduceNeg, Int.reduceToNat, Int.reduceEq, reduceCtorEq, norm_cons, norm_nil, normB, pOwn, pSel, gcS, reach, addN, getO, live, gcH, h1, h2, sumW]
  | succ m ih =>
    intro i acc h
    have hi : i < sh.length := by omega
    have h1 : (i : Int) < sh.length := by omega
    have hd := drop_cons hi
    rw [lp_nx]; conv => lhs; arg 1; unfold x396b1
    simp only [↓sxP, sxQ, xai, xgo, xop, xG, AOp.touched, oldX, nwX, newX, xo, xput, refX, xbin, xint, loadP, loadX, ofC, xcells, xagg, Nat.blt, Value.oneCell', refsO, okGc, renO, rI, coX, Option.isSome, outS, outT, resX, tupX, lend1, lend0, scalX, xsb, pvX, zeroX, spliceG, xapp, xappP, xrd, eqP1, xstr, zpv, Nat.beq, Nat.ble, ↓reduceIte, Nat.reduceAdd, Nat.reduceLeDiff, Nat.reduceBEq, Nat.reduceEqDiff, Nat.reduceLT, Nat.reduceSub, Nat.reduceMul, Int.reduceLT, Int.reduceLE, Int.reduceAdd, Int.reduceSub, Int.reduceNeg, Int.reduceToNat, Int.reduceEq, reduceCtorEq, norm_cons, norm_nil, normB, pOwn, pSel, gcS, reach, addN, getO, live, gcH, h1, get_some hi, encS, hd, sumW, List.replicate, List.set, x396a1n, wrap_succ (i := i) (by omega)]
    have ih' := ih (i + 1) (IntKind.i64.wrap (acc + sh[i].2)) (by omega)
    simpa only [encS] using ih'
end Go.Abs

namespace Go.Abs
open Go

theorem amt_spec (mk room : List Int) (h0 : ∀ v, 0 ≤ room.getD v 0) : ∀ (l : List Int) (acc : Int), 0 ≤ acc → (∀ v ∈ l, mk.getD v.toNat 0 = 0) →
    0 ≤ amt mk room l acc ∧ amt mk room l acc ≤ acc ∧ ∀ v ∈ l, amt mk room l acc ≤ room.getD v.toNat 0
  | [], acc, h, _ => ⟨h, Int.le_refl _, fun v hv => by cases hv⟩
  | v :: r, acc, h, hm => by
    have hv := hm v (List.mem_cons_self ..)
    have hr := h0 v.toNat
    simp only [amt, hv, if_true]
    obtain ⟨k1, k2, k3⟩ := amt_spec mk room h0 r (min acc (room.getD v.toNat 0)) (by omega) (fun u hu => hm u (List.mem_cons_of_mem _ hu))
    refine ⟨k1, by omega, fun u hu => ?_⟩
    rcases List.mem_cons.1 hu with rfl | hu
    · omega
    · exact k3 u hu

/-- What is left of each vertex: each vertex of the edge once. -/
theorem subR_get (am : Int) (ha : 0 ≤ am) (hb : am ≤ 1000000) : ∀ (l room : List Int) (last n : Int), asc n last l = true → -1 ≤ last → (n : Int) ≤ room.length → (∀ v, 0 ≤ room.getD v 0 ∧ room.getD v 0 ≤ 1000000) → (∀ v ∈ l, am ≤ room.getD v.toNat 0) →
    ∀ u : Nat, (subR am l room).getD u 0 = room.getD u 0 - if (u : Int) ∈ l then am else 0
  | [], room, _, _, _, _, _, _, _, u => by simp [subR]
  | v :: r, room, last, n, h, hl, hn, h0, ham, u => by
    simp only [asc, Bool.and_eq_true, decide_eq_true_eq] at h
    obtain ⟨⟨h1, h2⟩, h3⟩ := h
    have hv := ham v (List.mem_cons_self ..)
    have hw : IntKind.i64.wrap (room.getD v.toNat 0 - am) = room.getD v.toNat 0 - am := wrap64 _ (by have := h0 v.toNat; omega) (by have := h0 v.toNat; omega)
    have hset : ∀ k : Nat, (room.set v.toNat (room.getD v.toNat 0 - am)).getD k 0 = if k = v.toNat then room.getD v.toNat 0 - am else room.getD k 0 := by
      intro k
      rw [List.getD_eq_getElem?_getD, List.getElem?_set]
      by_cases e : v.toNat = k
      · subst e
        have : v.toNat < room.length := by omega
        simp [this]
      · rw [if_neg e, if_neg (fun h => e h.symm), List.getD_eq_getElem?_getD]
    have hnm : v ∉ r := fun hm => by have := asc_mem n r v h3 v hm; omega
    simp only [subR, hw]
    rw [subR_get am ha hb r _ v n h3 (by omega) (by simpa using hn) (fun k => by
      rw [hset]; split
      · have := h0 v.toNat; omega
      · exact h0 k) (fun k hk => by
      have hne : k.toNat ≠ v.toNat := fun e => by have := asc_mem n r v h3 k hk; omega
      rw [hset, if_neg hne]; exact ham k (List.mem_cons_of_mem _ hk)) u, hset]
    by_cases e : u = v.toNat
    · have hu : (u : Int) = v := by omega
      rw [if_pos e, hu, if_neg hnm, if_pos (List.mem_cons_self ..), e]; omega
    · have hu : ¬ (u : Int) = v := by omega
      rw [if_neg e]
      simp [hu]
end Go.Abs

namespace Go.Abs
open Go

theorem hasM_zero (n : Nat) (l : List Int) : hasM (List.replicate n 0) l 1 = false := by
  simp only [hasM, List.any_eq_false]
  intro v _
  have : (List.replicate n (0 : Int)).getD v.toNat 0 = 0 := by
    rw [List.getD_eq_getElem?_getD, List.getElem?_replicate]; split <;> rfl
  rw [this]; decide

def prs (e : List (List Int)) (out : List (Nat × Int)) : List (List Int × Int) := out.map fun y => (e.getD y.1 [], y.2)
theorem load_append (l r : List (List Int × Int)) (v : Nat) : load (l ++ r) v = load l v + load r v := by simp [load]
theorem load_one (s : List Int × Int) (v : Nat) : load [s] v = if (v : Int) ∈ s.1 then s.2 else 0 := by simp [load]

structure PInv (w : List Int) (e : List (List Int)) (i : Nat) (room : List Int) (out : List (Nat × Int)) (s : Int) : Prop where
  len : room.length = w.length
  bd : ∀ v, 0 ≤ room.getD v 0 ∧ room.getD v 0 ≤ 1000000
  ld : ∀ v, load (prs e out) v + room.getD v 0 = w.getD v 0
  el : ∀ y ∈ out, y.1 < i ∧ 1 ≤ y.2 ∧ y.2 ≤ 1000000
  cnt : out.length ≤ i
  sm : s = (out.map (·.2)).sum
  up : 0 ≤ s ∧ s ≤ i * 1000000

theorem pinv_step {w : List Int} {e : List (List Int)} (hv : validI w e = 0) (hl : e.length ≤ 2000) {i : Nat} (hi : i < e.length) {room : List Int} {out : List (Nat × Int)} {s : Int} (h : PInv w e i room out s) :
    PInv w e (i + 1) room out s ∧ (¬ amt (List.replicate w.length 0) room e[i] 1000000 = 0 →
      PInv w e (i + 1) (subR (amt (List.replicate w.length 0) room e[i] 1000000) e[i] room) (out ++ [(i, amt (List.replicate w.length 0) room e[i] 1000000)]) (IntKind.i64.wrap (s + amt (List.replicate w.length 0) room e[i] 1000000))) := by
  obtain ⟨h1, h2, h3, h4, h5, h6, h7⟩ := h
  have hok := (valid_w hv).2.2 e[i] (List.getElem_mem hi)
  refine ⟨⟨h1, h2, h3, fun y hy => ⟨by have := (h4 y hy).1; omega, (h4 y hy).2⟩, by omega, h6, by omega⟩, fun hne => ?_⟩
  obtain ⟨a1, a2, a3⟩ := amt_spec (List.replicate w.length 0) room (fun v => (h2 v).1) e[i] 1000000 (by omega) (fun v _ => by
    rw [List.getD_eq_getElem?_getD, List.getElem?_replicate]; split <;> rfl)
  generalize amt (List.replicate w.length 0) room e[i] 1000000 = am at *
  have hasc : asc w.length (-1) e[i] = true := by simp only [okE, Bool.and_eq_true] at hok; exact hok.1
  have hg := subR_get am a1 a2 e[i] room (-1) w.length hasc (by omega) (by omega) h2 a3
  have he : e.getD i [] = e[i] := by simp [hi]
  have hw : IntKind.i64.wrap (s + am) = s + am := wrap64 _ (by omega) (by omega)
  refine ⟨by rw [subR_len]; exact h1, fun v => ?_, fun v => ?_, fun y hy => ?_, by simp; omega, ?_, ?_⟩
  · rw [hg]
    have := h2 v
    split
    · rename_i hm
      have := a3 v hm
      simp only [Int.toNat_natCast] at this
      omega
    · omega
  · rw [hg]
    have hp : prs e (out ++ [(i, am)]) = prs e out ++ [(e[i], am)] := by simp [prs, hi]
    rw [hp, load_append, load_one]
    have := h3 v
    simp only
    split <;> omega
  · rcases List.mem_append.1 hy with hy | hy
    · have := h4 y hy; omega
    · simp only [List.mem_singleton] at hy; subst hy; simp only; omega
  · rw [hw, h6]; simp
  · rw [hw]; omega

theorem packR_inv {w : List Int} {e : List (List Int)} (hv : validI w e = 0) (hl : e.length ≤ 2000) : ∀ n i room out s, i + n = e.length → PInv w e i room out s →
    ∃ room', PInv w e e.length room' (packR (List.replicate w.length 0) (e.drop i) i room out s).1 (packR (List.replicate w.length 0) (e.drop i) i room out s).2 ∧ out.length ≤ (packR (List.replicate w.length 0) (e.drop i) i room out s).1.length := by
  intro n
  induction n with
  | zero =>
    intro i room out s h hp
    have h2 : e.drop i = [] := List.drop_of_length_le (by omega)
    have h3 : i = e.length := by omega
    simp only [h2, packR]
    exact ⟨room, h3 ▸ hp, Nat.le_refl _⟩
  | succ n ih =>
    intro i room out s h hp
    have hi : i < e.length := by omega
    obtain ⟨k1, k2⟩ := pinv_step hv hl hi hp
    rw [drop_cons hi]
    simp only [packR, hasM_zero, Bool.false_eq_true, if_false]
    by_cases h0 : amt (List.replicate w.length 0) room e[i] 1000000 = 0
    · simp only [h0, if_true]; exact ih (i + 1) room out s (by omega) k1
    · simp only [h0, if_false]
      obtain ⟨room', j1, j2⟩ := ih (i + 1) _ _ _ (by omega) (k2 h0)
      refine ⟨room', j1, ?_⟩
      simp only [List.length_append] at j2
      omega
end Go.Abs

namespace Go.Abs
open Go

theorem pinv_start {w : List Int} {e : List (List Int)} (hv : validI w e = 0) : PInv w e 0 w [] 0 := by
  obtain ⟨h1, _, _⟩ := valid_w hv
  refine ⟨rfl, fun v => ?_, fun v => by simp [prs, load], fun y hy => (by cases hy), Nat.le_refl _, rfl, by omega⟩
  by_cases h : v < w.length
  · rw [List.getD_eq_getElem?_getD, List.getElem?_eq_getElem h]
    have := h1 _ (List.getElem_mem h)
    simp only [Option.getD_some]; omega
  · rw [List.getD_eq_getElem?_getD, List.getElem?_eq_none (by omega)]; simp

theorem packI_right {w : List Int} {e : List (List Int)} (hv : validI w e = 0) (hl : e.length ≤ 2000) :
    (∀ y ∈ (packI w e).1, y.1 < e.length ∧ 1 ≤ y.2 ∧ y.2 ≤ 1000000) ∧ (∀ v, load (prs e (packI w e).1) v ≤ w.getD v 0) ∧ (packI w e).2 = ((packI w e).1.map (·.2)).sum ∧
    0 ≤ (packI w e).2 ∧ (packI w e).2 ≤ least w e ∧ (packI w e).1.length ≤ e.length := by
  obtain ⟨room, h, _⟩ := packR_inv hv hl e.length 0 w [] 0 (by omega) (pinv_start hv)
  rw [List.drop_zero] at h
  obtain ⟨_, h2, h3, h4, h5, h6, h7⟩ := h
  have hld : ∀ v, load (prs e (packI w e).1) v ≤ w.getD v 0 := fun v => by have a := h3 v; have b := h2 v; unfold packI; omega
  have hs : (packI w e).2 = ((packI w e).1.map (·.2)).sum := h6
  refine ⟨h4, hld, hs, h7.1, ?_, h5⟩
  have := pack_least hv (prs e (packI w e).1) (fun s hs => by
    obtain ⟨y, hy, rfl⟩ := List.mem_map.1 hs
    have hy' := h4 y hy
    exact ⟨List.mem_of_getElem? (get_edge hy'.1), by simp only; omega⟩) (fun v _ => hld v)
  have hmap : (prs e (packI w e).1).map (·.2) = (packI w e).1.map (·.2) := by simp [prs]
  rw [hmap] at this
  rw [hs]; exact this
end Go.Abs

namespace Go.Abs
open Go

theorem amt_pos (mk room : List Int) : ∀ (l : List Int) (acc : Int), 1 ≤ acc → (∀ v ∈ l, 1 ≤ room.getD v.toNat 0) → 1 ≤ amt mk room l acc
  | [], _, h, _ => h
  | v :: r, acc, h, hr => by
    simp only [amt]
    have := hr v (List.mem_cons_self ..)
    refine amt_pos mk room r _ ?_ (fun u hu => hr u (List.mem_cons_of_mem _ hu))
    split <;> omega

theorem sum_pos : ∀ (l : List (Nat × Int)), (∀ y ∈ l, 1 ≤ y.2) → (l.length : Int) ≤ (l.map (·.2)).sum
  | [], _ => by simp
  | y :: r, h => by
    have := sum_pos r (fun z hz => h z (List.mem_cons_of_mem _ hz))
    have h2 := h y (List.mem_cons_self ..)
    simp only [List.map_cons, List.sum_cons, List.length_cons]; omega

theorem packI_pos {w : List Int} {e : List (List Int)} (hv : validI w e = 0) (hl : e.length ≤ 2000) : 0 < (packI w e).2 ↔ 0 < e.length := by
  obtain ⟨h1, _, h3, _, _, h6⟩ := packI_right hv hl
  constructor
  · intro h
    apply Classical.byContradiction
    intro hn
    have : (packI w e).1 = [] := List.length_eq_zero_iff.1 (by omega)
    rw [h3, this] at h
    simp at h
  · intro h
    have hs := sum_pos (packI w e).1 (fun y hy => (h1 y hy).2.1)
    rw [h3]
    suffices 1 ≤ (packI w e).1.length by omega
    have hi : 0 < e.length := h
    obtain ⟨k1, k2⟩ := pinv_step hv hl hi (pinv_start hv)
    have hok := okE_mem ((valid_w hv).2.2 e[0] (List.getElem_mem hi))
    have ha := amt_pos (List.replicate w.length 0) w e[0] 1000000 (by omega) (fun v hv' => by
      have := (hok.1 v hv').2
      rw [List.getD_eq_getElem?_getD, List.getElem?_eq_getElem this]
      exact ((valid_w hv).1 _ (List.getElem_mem this)).1)
    have hne : ¬ amt (List.replicate w.length 0) w e[0] 1000000 = 0 := by omega
    obtain ⟨room, _, j⟩ := packR_inv hv hl (e.length - 1) 1 _ _ _ (by omega) (k2 hne)
    have hp : packI w e = packR (List.replicate w.length 0) (e.drop 1) 1 (subR (amt (List.replicate w.length 0) w e[0] 1000000) e[0] w) ([] ++ [(0, amt (List.replicate w.length 0) w e[0] 1000000)]) (IntKind.i64.wrap (0 + amt (List.replicate w.length 0) w e[0] 1000000)) := by
      have hd : e = e[0] :: e.drop 1 := by have := drop_cons hi; simpa using this
      unfold packI
      conv => lhs; rw [hd]
      simp only [packR, hasM_zero, Bool.false_eq_true, if_false, hne]
      rfl
    rw [hp]
    simpa using j
end Go.Abs

namespace Go.Abs
open Go

theorem sumW_eq : ∀ (l : List (Nat × Int)) (acc : Int), (∀ y ∈ l, 1 ≤ y.2 ∧ y.2 ≤ 1000000) → 0 ≤ acc → acc + l.length * 1000000 ≤ 1000000000000000 → sumW l acc = acc + (l.map (·.2)).sum
  | [], acc, _, _, _ => by simp [sumW]
  | y :: r, acc, h, h0, hb => by
    have hy := h y (List.mem_cons_self ..)
    simp only [List.length_cons] at hb
    have hw : IntKind.i64.wrap (acc + y.2) = acc + y.2 := wrap64 _ (by omega) (by omega)
    simp only [sumW, hw]
    rw [sumW_eq r (acc + y.2) (fun z hz => h z (List.mem_cons_of_mem _ hz)) (by omega) (by omega)]
    simp only [List.map_cons, List.sum_cons]; omega

/-- The shares with numbers as the program has them. -/
def toI (l : List (Nat × Int)) : List (Int × Int) := l.map fun y => ((y.1 : Int), y.2)
theorem toI_enc (l : List (Nat × Int)) : (toI l).map encSI = l.map encS := by simp only [toI, List.map_map]; rfl

theorem rightA_eq (e : List (List Int)) : ∀ (l : List (Nat × Int)) (acc : Int), (∀ y ∈ l, y.1 < e.length ∧ 1 ≤ y.2 ∧ y.2 ≤ 1000000) → 0 ≤ acc → acc + l.length * 1000000 ≤ 1000000000000000 → rightA e [] (toI l) acc = some (acc + (l.map (·.2)).sum)
  | [], acc, _, _, _ => by simp [rightA, toI]
  | y :: r, acc, h, h0, hb => by
    have hy := h y (List.mem_cons_self ..)
    simp only [List.length_cons] at hb
    have hw : IntKind.i64.wrap (acc + y.2) = acc + y.2 := wrap64 _ (by omega) (by omega)
    have hn : ¬ ((y.1 : Int) < 0 ∨ (e.length : Int) ≤ y.1 ∨ y.2 < 1 ∨ 1000000000000 < y.2 ∨ meet (e.getD (y.1 : Int).toNat []) [] = true) := by
      have : meet (e.getD (y.1 : Int).toNat []) [] = false := by simp [meet]
      rw [this]
      rintro (k | k | k | k | k)
      · omega
      · omega
      · omega
      · omega
      · cases k
    have ih := rightA_eq e r (acc + y.2) (fun z hz => h z (List.mem_cons_of_mem _ hz)) (by omega) (by omega)
    show rightA e [] (((y.1 : Int), y.2) :: toI r) acc = _
    simp only [rightA]
    rw [if_neg hn, hw, ih]
    simp only [List.map_cons, List.sum_cons]
    congr 1; omega
end Go.Abs

namespace Go.Abs
open Go

theorem loadW_eq (e : List (List Int)) (v : Nat) : ∀ (l : List (Nat × Int)) (acc : Int), (∀ y ∈ l, y.1 < e.length ∧ 1 ≤ y.2 ∧ y.2 ≤ 1000000) → 0 ≤ acc → acc + l.length * 1000000 ≤ 1000000000000000 → loadW e v (toI l) acc = acc + load (prs e l) v
  | [], acc, _, _, _ => by simp [loadW, toI, prs, load]
  | y :: r, acc, h, h0, hb => by
    have hy := h y (List.mem_cons_self ..)
    simp only [List.length_cons] at hb
    have hw : IntKind.i64.wrap (acc + y.2) = acc + y.2 := wrap64 _ (by omega) (by omega)
    have hp : load (prs e (y :: r)) v = (if (v : Int) ∈ e.getD y.1 [] then y.2 else 0) + load (prs e r) v := load_cons (e.getD y.1 [], y.2) (prs e r) v
    rw [hp]
    show loadW e v (((y.1 : Int), y.2) :: toI r) acc = _
    simp only [loadW, Int.toNat_natCast, hw]
    split
    · rw [loadW_eq e v r _ (fun z hz => h z (List.mem_cons_of_mem _ hz)) (by omega) (by omega)]; omega
    · rw [loadW_eq e v r _ (fun z hz => h z (List.mem_cons_of_mem _ hz)) (by omega) (by omega)]; omega

theorem rightV_eq (w : List Int) (e : List (List Int)) (sh : List (Int × Int)) : ∀ (r : List Int) (v : Nat), (∀ k u, r[k]? = some u → loadW e ((v + k : Nat) : Int) sh 0 ≤ u) → rightV w e [] sh r v = true
  | [], _, _ => rfl
  | u :: r, v, h => by
    have h0 := h 0 u rfl
    simp only [rightV]
    rw [if_neg (by rintro ⟨k, _⟩; simp only [Nat.add_zero] at h0; omega)]
    exact rightV_eq w e sh r (v + 1) fun k x hx => by
      have := h (k + 1) x hx
      rw [show v + 1 + k = v + (k + 1) by omega]; exact this

/-- What Packing finds is right by the reference. -/
theorem packI_rightI {w : List Int} {e : List (List Int)} (hv : validI w e = 0) (hl : e.length ≤ 2000) : rightI w e [] [] (packI w e).2 (toI (packI w e).1) = true := by
  obtain ⟨h1, h2, h3, _, _, h6⟩ := packI_right hv hl
  unfold rightI
  have hlen : ¬ 10000 < (toI (packI w e).1).length := by simp only [toI, List.length_map]; omega
  rw [if_neg hlen, rightA_eq e _ 0 h1 (by omega) (by omega)]
  simp only
  rw [if_pos (rightV_eq w e _ w 0 fun k u hu => by
    rw [Nat.zero_add, loadW_eq e k _ 0 h1 (by omega) (by omega)]
    have := h2 k
    rw [List.getD_eq_getElem?_getD, hu] at this
    simp only [Option.getD_some] at this
    omega), h3]
  simp
end Go.Abs

namespace Go.Abs
open Go

theorem asc_snoc (N v : Int) (hN : v < N) : ∀ (l : List Int) (last : Int), asc N last l = true → (∀ u ∈ l, u < v) → last < v → asc N last (l ++ [v]) = true
  | [], last, _, _, h => by simp [asc, h, hN]
  | x :: r, last, h, hu, _ => by
    simp only [asc, Bool.and_eq_true, decide_eq_true_eq] at h
    simp only [List.cons_append, asc, Bool.and_eq_true, decide_eq_true_eq]
    exact ⟨h.1, asc_snoc N v hN r x h.2 (fun u hm => hu u (List.mem_cons_of_mem _ hm)) (hu x (List.mem_cons_self ..))⟩
theorem asc_subF (b N : Nat) : ∀ n, n ≤ N → asc N (-1) (subF b n) = true
  | 0, _ => rfl
  | n + 1, h => by
    have ih := asc_subF b N n (by omega)
    simp only [subF]
    split
    · exact asc_snoc N n (by omega) _ _ ih (fun u hu => by obtain ⟨i, h1, _, h3⟩ := (mem_subF b u n).1 hu; omega) (by omega)
    · rw [List.append_nil]; exact ih
theorem wgt_ok (x : Nat) : okW (wgt x) = true := by
  have h : (x : Int).tmod 20 = ((x % 20 : Nat) : Int) := by simp [Int.tmod_eq_emod_of_nonneg]
  have h2 : x % 20 < 20 := Nat.mod_lt _ (by omega)
  unfold wgt
  rw [h, wrap64 ((x % 20 : Nat) : Int) (by omega) (by omega), wrap64 _ (by omega) (by omega)]
  simp only [okW, Bool.and_eq_true, decide_eq_true_eq]; omega
theorem edgs_ok (n : Nat) : ∀ l, (edgs n l).length ≤ l.length ∧ ∀ a ∈ edgs n l, okE n a = true ∧ a.length ≤ n
  | [] => ⟨Nat.le_refl _, fun a ha => by cases ha⟩
  | x :: r => by
    obtain ⟨h1, h2⟩ := edgs_ok n r
    simp only [edgs]
    split
    · exact ⟨by simp; omega, h2⟩
    · rename_i h3
      refine ⟨by simp; omega, fun a ha => ?_⟩
      rcases List.mem_cons.1 ha with rfl | ha
      · refine ⟨?_, subF_len x n⟩
        simp only [okE, asc_subF x n n (Nat.le_refl _), Bool.true_and]
        cases hc : subF x n with
        | nil => rw [hc] at h3; exact absurd rfl h3
        | cons _ _ => rfl
      · exact h2 a ha
theorem of_valid (ws es : List Nat) (hw : ws.length ≤ 8) (he : es.length ≤ 12) : validI (ws.map wgt) (edgs ws.length es) = 0 := by
  have h1 := edgs_ok ws.length es
  unfold validI
  rw [if_neg (by simp only [List.length_map]; omega), if_pos]
  simp only [Bool.and_eq_true, List.all_eq_true, List.length_map]
  exact ⟨fun x hx => by obtain ⟨y, _, rfl⟩ := List.mem_map.1 hx; exact wgt_ok y, fun a ha => (h1.2 a ha).1⟩
end Go.Abs

namespace Go.Abs
open Go
set_option linter.unusedSimpArgs false
set_option maxHeartbeats 2000000
set_option maxRecDepth 8000
theorem law396 (ws es : List Nat) (hb : ∀ x ∈ es, x < 65536) (X : XHeap) : call XT 396 [.p (PV.agg [.rd 1 (ws.map enc8), .rd 1 (es.map enc16)])] X = some (vB true, X) := by
  refine call_pure (F := f396) (args := [PV.agg [.rd 1 (ws.map enc8), .rd 1 (es.map enc16)]]) T396 rfl rfl ?_
  unfold f396 x396
  by_cases h : ws.length ≤ 8 ∧ es.length ≤ 12
  · obtain ⟨h1, h2⟩ := h
    have hv := of_valid ws es h1 h2
    have ho := edgs_ok ws.length es
    have hm : ∀ a ∈ edgs ws.length es, a.length ≤ 1048576 := fun a ha => by have := (ho.2 a ha).2; omega
    generalize hw : ws.map wgt = w at hv
    have hwl : w.length = ws.length := by rw [← hw]; simp
    generalize he : edgs ws.length es = e at hv ho hm
    have k0 := fun X => call403 ws es h1 h2 hb X
    rw [hw, he] at k0
    have hE : e.map encL1 = e.map fun l => [PV.rd 1 (l.map encI)] := rfl
    rw [hE] at k0
    have hr := packI_right hv (by omega)
    have k1 := fun X => call415 w e (by omega) (by omega) hm hv X
    have k2 := l396 w e (packI w e).1 (by omega) (packI w e).2 0 (packI w e).1.length 0 0 (by omega)
    have k3 := fun X => call416 w e [] [] (packI w e).2 (toI (packI w e).1) (by simp only [toI, List.length_map]; omega) hm (by simp) (by omega) (by simp) X
    have k4 := fun X => call408 w e (by omega) (by omega) hm X
    rw [toI_enc, packI_rightI hv (by omega)] at k3
    rw [List.drop_zero, sumW_eq _ 0 (fun y hy => (hr.1 y hy).2) (by omega) (by omega), Int.zero_add, ← hr.2.2.1] at k2
    simp only [Int.natCast_zero, List.map_nil] at k2 k3
    have h5 : (packI w e).2 ≤ least w e := hr.2.2.2.2.1
    have h6 : decide (0 < (packI w e).2) = decide (0 < (e.length : Int)) := by have := packI_pos hv (by omega); simp only [this]; congr 1; simp
    simp only [↓sxP, sxQ, xai, xgo, xop, xG, AOp.touched, oldX, nwX, newX, xo, xput, refX, xbin, xint, loadP, loadX, ofC, xcells, xagg, Nat.blt, Value.oneCell', refsO, okGc, renO, rI, coX, Option.isSome, outS, outT, resX, tupX, lend1, lend0, scalX, xsb, pvX, zeroX, spliceG, xapp, xappP, xrd, eqP1, xstr, zpv, Nat.beq, Nat.ble, ↓reduceIte, Nat.reduceAdd, Nat.reduceLeDiff, Nat.reduceBEq, Nat.reduceEqDiff, Nat.reduceLT, Nat.reduceSub, Nat.reduceMul, Int.reduceLT, Int.reduceLE, Int.reduceAdd, Int.reduceSub, Int.reduceNeg, Int.reduceToNat, Int.reduceEq, reduceCtorEq, norm_cons, norm_nil, normB, pOwn, pSel, gcS, reach, addN, getO, live, gcH, P403, k0, maxEl, List.replicate, List.set, P400, awake_any, P415, k1, x396a1n, k2, P416, k3, P408, k4, h5, h6, beq_self_eq_true, encL1]
  · have k0 := fun X => bad403 ws es h X
    simp only [↓sxP, sxQ, xai, xgo, xop, xG, AOp.touched, oldX, nwX, newX, xo, xput, refX, xbin, xint, loadP, loadX, ofC, xcells, xagg, Nat.blt, Value.oneCell', refsO, okGc, renO, rI, coX, Option.isSome, outS, outT, resX, tupX, lend1, lend0, scalX, xsb, pvX, zeroX, spliceG, xapp, xappP, xrd, eqP1, xstr, zpv, Nat.beq, Nat.ble, ↓reduceIte, Nat.reduceAdd, Nat.reduceLeDiff, Nat.reduceBEq, Nat.reduceEqDiff, Nat.reduceLT, Nat.reduceSub, Nat.reduceMul, Int.reduceLT, Int.reduceLE, Int.reduceAdd, Int.reduceSub, Int.reduceNeg, Int.reduceToNat, Int.reduceEq, reduceCtorEq, norm_cons, norm_nil, normB, pOwn, pSel, gcS, reach, addN, getO, live, gcH, P403, k0, maxEl, List.replicate, List.set, P400, awake_any]
end Go.Abs
