/- Drafts of chapter 39: the instance of a draft. No condition. -/
import Derived.Test.YtgegamaadohibaaHc
namespace Go.Abs
open Go
set_option linter.unusedSimpArgs false
set_option maxHeartbeats 1000000
set_option maxRecDepth 8000
def enc8 (n : Nat) : List PV := [.v (.int .u8 n)]
def enc16 (n : Nat) : List PV := [.v (.int .u16 n)]

/-- The objects while an instance is built. -/
def hOf (B T : XObj) (a b : List (List PV)) : XHeap := match a, b with
  | [], [] => [some B, some T, some (.mx 2 [[.p .emp, .p .emp]])]
  | x :: r, [] => [some B, some T, some (.mx 2 [[.ref 3 0 (r.length + 1), .p .emp]]), some (.pu 1 (x :: r))]
  | [], y :: q => [some B, some T, some (.mx 2 [[.p .emp, .ref 3 0 (q.length + 1)]]), some (.pu 1 (y :: q))]
  | x :: r, y :: q => [some B, some T, some (.mx 2 [[.ref 3 0 (r.length + 1), .ref 4 0 (q.length + 1)]]), some (.pu 1 (x :: r)), some (.pu 1 (y :: q))]
/-- The objects when all is read. -/
def hOf2 (T : XObj) (a b : List (List PV)) : XHeap := match a, b with
  | [], [] => [some T, some (.mx 2 [[.p .emp, .p .emp]])]
  | x :: r, [] => [some T, some (.mx 2 [[.ref 2 0 (r.length + 1), .p .emp]]), some (.pu 1 (x :: r))]
  | [], y :: q => [some T, some (.mx 2 [[.p .emp, .ref 2 0 (q.length + 1)]]), some (.pu 1 (y :: q))]
  | x :: r, y :: q => [some T, some (.mx 2 [[.ref 2 0 (r.length + 1), .ref 3 0 (q.length + 1)]]), some (.pu 1 (x :: r)), some (.pu 1 (y :: q))]

def wgt (x : Nat) : Int := IntKind.i64.wrap (1 + IntKind.i64.wrap ((x : Int).tmod 20))

theorem l403_1 (ws es : List Nat) (hl : ws.length ≤ 8) : ∀ m i : Nat, ∀ a : List (List PV), i + m = ws.length → a.length ≤ i →
    lp XT x403a1 x403b1 ⟨[(1, .ptr 0 0 0), (2, .ptr 1 0 0), (4, .ptr 2 0 0), (5, vI i)], hOf (.mx 2 [[.p (.rd 1 (ws.map enc8)), .p (.rd 1 (es.map enc16))]]) (.mx 2 [[.p .emp, .p .emp]]) a [], 0⟩ =
      some (.exit 0, ⟨[(1, .ptr 0 0 0), (2, .ptr 1 0 0), (4, .ptr 2 0 0)], hOf (.mx 2 [[.p (.rd 1 (ws.map enc8)), .p (.rd 1 (es.map enc16))]]) (.mx 2 [[.p .emp, .p .emp]]) (a ++ (ws.drop i).map fun x => encI (wgt x)) [], 0⟩) := by
  intro m
  induction m with
  | zero =>
    intro i a h ha
    have h1 : ¬ (i : Int) < ws.length := by omega
    have h2 : ws.drop i = [] := List.drop_of_length_le (by omega)
    cases a with
    | nil =>
      rw [lp_nx]; conv => lhs; arg 1; unfold x403b1
      simp only [↓sxP, sxQ, xai, xgo, xop, xG, AOp.touched, oldX, nwX, newX, xo, xput, refX, xbin, xint, loadP, loadX, ofC, xcells, xagg, Nat.blt, Value.oneCell', refsO, okGc, renO, rI, coX, Option.isSome, outS, outT, resX, tupX, lend1, lend0, scalX, xsb, pvX, zeroX, spliceG, xapp, xappP, xrd, eqP1, xstr, zpv, Nat.beq, Nat.ble, ↓reduceIte, Nat.reduceAdd, Nat.reduceLeDiff, Nat.reduceBEq, Nat.reduceEqDiff, Nat.reduceLT, Nat.reduceSub, Nat.reduceMul, Int.reduceLT, Int.reduceLE, Int.reduceAdd, Int.reduceSub, Int.reduceNeg, Int.reduceToNat, Int.reduceEq, reduceCtorEq, norm_cons, norm_nil, normB, pOwn, pSel, gcS, reach, addN, getO, live, gcH, h1, h2, hOf]
    | cons x r =>
      rw [lp_nx]; conv => lhs; arg 1; unfold x403b1
      simp only [↓sxP, sxQ, xai, xgo, xop, xG, AOp.touched, oldX, nwX, newX, xo, xput, refX, xbin, xint, loadP, loadX, ofC, xcells, xagg, Nat.blt, Value.oneCell', refsO, okGc, renO, rI, coX, Option.isSome, outS, outT, resX, tupX, lend1, lend0, scalX, xsb, pvX, zeroX, spliceG, xapp, xappP, xrd, eqP1, xstr, zpv, Nat.beq, Nat.ble, ↓reduceIte, Nat.reduceAdd, Nat.reduceLeDiff, Nat.reduceBEq, Nat.reduceEqDiff, Nat.reduceLT, Nat.reduceSub, Nat.reduceMul, Int.reduceLT, Int.reduceLE, Int.reduceAdd, Int.reduceSub, Int.reduceNeg, Int.reduceToNat, Int.reduceEq, reduceCtorEq, norm_cons, norm_nil, normB, pOwn, pSel, gcS, reach, addN, getO, live, gcH, h1, h2, hOf]
  | succ m ih =>
    intro i a h ha
    have hi : i < ws.length := by omega
    have h1 : (i : Int) < ws.length := by omega
    have h20 : ¬ ((20 : Int) = 0) := by omega
    have ih' := ih (i + 1) (a ++ [encI (wgt ws[i])]) (by omega) (by simp; omega)
    have hwg : IntKind.i64.wrap (1 + IntKind.i64.wrap ((ws[i] : Int).tmod 20)) = wgt ws[i] := rfl
    rw [List.append_assoc] at ih'
    simp only [List.singleton_append, encI] at ih'
    cases a with
    | nil =>
      simp only [hOf, List.nil_append, List.length_nil, List.length_map, Nat.zero_add] at ih' ⊢
      rw [lp_nx]; conv => lhs; arg 1; unfold x403b1
      simp only [↓sxP, sxQ, xai, xgo, xop, xG, AOp.touched, oldX, nwX, newX, xo, xput, refX, xbin, xint, loadP, loadX, ofC, xcells, xagg, Nat.blt, Value.oneCell', refsO, okGc, renO, rI, coX, Option.isSome, outS, outT, resX, tupX, lend1, lend0, scalX, xsb, pvX, zeroX, spliceG, xapp, xappP, xrd, eqP1, xstr, zpv, Nat.beq, Nat.ble, ↓reduceIte, Nat.reduceAdd, Nat.reduceLeDiff, Nat.reduceBEq, Nat.reduceEqDiff, Nat.reduceLT, Nat.reduceSub, Nat.reduceMul, Int.reduceLT, Int.reduceLE, Int.reduceAdd, Int.reduceSub, Int.reduceNeg, Int.reduceToNat, Int.reduceEq, reduceCtorEq, norm_cons, norm_nil, normB, pOwn, pSel, gcS, reach, addN, getO, live, gcH, h1, get_some hi, enc8, encI, drop_cons hi, h20, hwg, xappP, maxEl, List.set, List.mem_singleton, forall_eq, x403a1n, wrap_succ (i := i) (by omega), ih']
    | cons x r =>
      simp only [List.length_cons] at ha
      have hm : r.length ≤ 1073741822 := by omega
      simp only [hOf, List.cons_append, List.length_append, List.length_cons, List.length_nil, List.length_map, Nat.zero_add] at ih' ⊢
      rw [lp_nx]; conv => lhs; arg 1; unfold x403b1
      simp only [↓sxP, sxQ, xai, xgo, xop, xG, AOp.touched, oldX, nwX, newX, xo, xput, refX, xbin, xint, loadP, loadX, ofC, xcells, xagg, Nat.blt, Value.oneCell', refsO, okGc, renO, rI, coX, Option.isSome, outS, outT, resX, tupX, lend1, lend0, scalX, xsb, pvX, zeroX, spliceG, xapp, xappP, xrd, eqP1, xstr, zpv, Nat.beq, Nat.ble, ↓reduceIte, Nat.reduceAdd, Nat.reduceLeDiff, Nat.reduceBEq, Nat.reduceEqDiff, Nat.reduceLT, Nat.reduceSub, Nat.reduceMul, Int.reduceLT, Int.reduceLE, Int.reduceAdd, Int.reduceSub, Int.reduceNeg, Int.reduceToNat, Int.reduceEq, reduceCtorEq, norm_cons, norm_nil, normB, pOwn, pSel, gcS, reach, addN, getO, live, gcH, h1, get_some hi, enc8, encI, drop_cons hi, h20, hwg, hm, xappP, maxEl, List.set, List.mem_singleton, forall_eq, x403a1n, wrap_succ (i := i) (by omega), ih']

def encL1 (l : List Int) : List PV := [.rd 1 (l.map encI)]
/-- The edges of a draft. -/
def edgs (n : Nat) : List Nat → List (List Int)
  | [] => []
  | x :: r => if (subF x n).length = 0 then edgs n r else subF x n :: edgs n r

theorem l403_2 (ws es : List Nat) (hl : es.length ≤ 12) (hw : ws.length ≤ 8) (hb : ∀ x ∈ es, x < 65536) (a : List (List PV)) : ∀ m i : Nat, ∀ b : List (List PV), i + m = es.length → b.length ≤ i →
    lp XT x403a2 x403b2 ⟨[(1, .ptr 0 0 0), (2, .ptr 1 0 0), (4, .ptr 2 0 0), (6, vI i)], hOf (.mx 2 [[.p (.rd 1 (ws.map enc8)), .p (.rd 1 (es.map enc16))]]) (.mx 2 [[.p .emp, .p .emp]]) a b, 0⟩ =
      some (.exit 2, ⟨[(2, .ptr 0 0 0), (4, .ptr 1 0 0)], hOf2 (.mx 2 [[.p .emp, .p .emp]]) a (b ++ (edgs ws.length (es.drop i)).map encL1), 0⟩) := by
  intro m
  induction m with
  | zero =>
    intro i b h hbl
    have h1 : ¬ (i : Int) < es.length := by omega
    have h2 : es.drop i = [] := List.drop_of_length_le (by omega)
    cases a with
    | nil =>
      cases b with
      | nil =>
        rw [lp_nx]; conv => lhs; arg 1; unfold x403b2
        simp only [↓sxP, sxQ, xai, xgo, xop, xG, AOp.touched, oldX, nwX, newX, xo, xput, refX, xbin, xint, loadP, loadX, ofC, xcells, xagg, Nat.blt, Value.oneCell', refsO, okGc, renO, rI, coX, Option.isSome, outS, outT, resX, tupX, lend1, lend0, scalX, xsb, pvX, zeroX, spliceG, xapp, xappP, xrd, eqP1, xstr, zpv, Nat.beq, Nat.ble, ↓reduceIte, Nat.reduceAdd, Nat.reduceLeDiff, Nat.reduceBEq, Nat.reduceEqDiff, Nat.reduceLT, Nat.reduceSub, Nat.reduceMul, Int.reduceLT, Int.reduceLE, Int.reduceAdd, Int.reduceSub, Int.reduceNeg, Int.reduceToNat, Int.reduceEq, reduceCtorEq, norm_cons, norm_nil, normB, pOwn, pSel, gcS, reach, addN, getO, live, gcH, h1, h2, hOf, hOf2, edgs]
      | cons y q =>
        rw [lp_nx]; conv => lhs; arg 1; unfold x403b2
        simp only [↓sxP, sxQ, xai, xgo, xop, xG, AOp.touched, oldX, nwX, newX, xo, xput, refX, xbin, xint, loadP, loadX, ofC, xcells, xagg, Nat.blt, Value.oneCell', refsO, okGc, renO, rI, coX, Option.isSome, outS, outT, resX, tupX, lend1, lend0, scalX, xsb, pvX, zeroX, spliceG, xapp, xappP, xrd, eqP1, xstr, zpv, Nat.beq, Nat.ble, ↓reduceIte, Nat.reduceAdd, Nat.reduceLeDiff, Nat.reduceBEq, Nat.reduceEqDiff, Nat.reduceLT, Nat.reduceSub, Nat.reduceMul, Int.reduceLT, Int.reduceLE, Int.reduceAdd, Int.reduceSub, Int.reduceNeg, Int.reduceToNat, Int.reduceEq, reduceCtorEq, norm_cons, norm_nil, normB, pOwn, pSel, gcS, reach, addN, getO, live, gcH, h1, h2, hOf, hOf2, edgs]
    | cons x r =>
      cases b with
      | nil =>
        rw [lp_nx]; conv => lhs; arg 1; unfold x403b2
        simp only [↓sxP, sxQ, xai, xgo, xop, xG, AOp.touched, oldX, nwX, newX, xo, xput, refX, xbin, xint, loadP, loadX, ofC, xcells, xagg, Nat.blt, Value.oneCell', refsO, okGc, renO, rI, coX, Option.isSome, outS, outT, resX, tupX, lend1, lend0, scalX, xsb, pvX, zeroX, spliceG, xapp, xappP, xrd, eqP1, xstr, zpv, Nat.beq, Nat.ble, ↓reduceIte, Nat.reduceAdd, Nat.reduceLeDiff, Nat.reduceBEq, Nat.reduceEqDiff, Nat.reduceLT, Nat.reduceSub, Nat.reduceMul, Int.reduceLT, Int.reduceLE, Int.reduceAdd, Int.reduceSub, Int.reduceNeg, Int.reduceToNat, Int.reduceEq, reduceCtorEq, norm_cons, norm_nil, normB, pOwn, pSel, gcS, reach, addN, getO, live, gcH, h1, h2, hOf, hOf2, edgs]
      | cons y q =>
        rw [lp_nx]; conv => lhs; arg 1; unfold x403b2
        simp only [↓sxP, sxQ, xai, xgo, xop, xG, AOp.touched, oldX, nwX, newX, xo, xput, refX, xbin, xint, loadP, loadX, ofC, xcells, xagg, Nat.blt, Value.oneCell', refsO, okGc, renO, rI, coX, Option.isSome, outS, outT, resX, tupX, lend1, lend0, scalX, xsb, pvX, zeroX, spliceG, xapp, xappP, xrd, eqP1, xstr, zpv, Nat.beq, Nat.ble, ↓reduceIte, Nat.reduceAdd, Nat.reduceLeDiff, Nat.reduceBEq, Nat.reduceEqDiff, Nat.reduceLT, Nat.reduceSub, Nat.reduceMul, Int.reduceLT, Int.reduceLE, Int.reduceAdd, Int.reduceSub, Int.reduceNeg, Int.reduceToNat, Int.reduceEq, reduceCtorEq, norm_cons, norm_nil, normB, pOwn, pSel, gcS, reach, addN, getO, live, gcH, h1, h2, hOf, hOf2, edgs]
  | succ m ih =>
    intro i b h hbl
    have hi : i < es.length := by omega
    have h1 : (i : Int) < es.length := by omega
    have hx : es[i] < 65536 := hb _ (List.getElem_mem hi)
    have hwr : IntKind.i64.wrap (es[i] : Int) = es[i] := wrap64 _ (by omega) (by omega)
    have hc := fun X => call423 es[i] ws.length (by omega) (by omega) X
    have hd := drop_cons hi
    by_cases h3 : (subF es[i] ws.length).length = 0
    · have h3' : ¬ (0 : Int) < ((0 : Nat) : Int) := by omega
      have ih' := ih (i + 1) b (by omega) (by omega)
      cases a with
      | nil =>
        cases b with
        | nil =>
          simp only [List.length_cons, List.length_nil, Int.natCast_zero] at hbl
          simp only [hOf, List.cons_append, List.nil_append, List.length_append, List.length_cons, List.length_nil, List.length_map, Nat.zero_add, encL1] at ih' ⊢
          rw [lp_nx]; conv => lhs; arg 1; unfold x403b2
          simp only [↓sxP, sxQ, xai, xgo, xop, xG, AOp.touched, oldX, nwX, newX, xo, xput, refX, xbin, xint, loadP, loadX, ofC, xcells, xagg, Nat.blt, Value.oneCell', refsO, okGc, renO, rI, coX, Option.isSome, outS, outT, resX, tupX, lend1, lend0, scalX, xsb, pvX, zeroX, spliceG, xapp, xappP, xrd, eqP1, xstr, zpv, Nat.beq, Nat.ble, ↓reduceIte, Nat.reduceAdd, Nat.reduceLeDiff, Nat.reduceBEq, Nat.reduceEqDiff, Nat.reduceLT, Nat.reduceSub, Nat.reduceMul, Int.reduceLT, Int.reduceLE, Int.reduceAdd, Int.reduceSub, Int.reduceNeg, Int.reduceToNat, Int.reduceEq, reduceCtorEq, norm_cons, norm_nil, normB, pOwn, pSel, gcS, reach, addN, getO, live, gcH, h1, get_some hi, enc16, hd, edgs, hwr, P423, hc, h3, h3', List.length_append, List.cons_append, encL1, xappP, maxEl, List.set, List.mem_singleton, forall_eq, x403a2n, wrap_succ (i := i) (by omega), ih']
        | cons y q =>
          simp only [List.length_cons, List.length_nil, Int.natCast_zero] at hbl
          have hm : q.length ≤ 1073741822 := by omega
          simp only [hOf, List.cons_append, List.nil_append, List.length_append, List.length_cons, List.length_nil, List.length_map, Nat.zero_add, encL1] at ih' ⊢
          rw [lp_nx]; conv => lhs; arg 1; unfold x403b2
          simp only [↓sxP, sxQ, xai, xgo, xop, xG, AOp.touched, oldX, nwX, newX, xo, xput, refX, xbin, xint, loadP, loadX, ofC, xcells, xagg, Nat.blt, Value.oneCell', refsO, okGc, renO, rI, coX, Option.isSome, outS, outT, resX, tupX, lend1, lend0, scalX, xsb, pvX, zeroX, spliceG, xapp, xappP, xrd, eqP1, xstr, zpv, Nat.beq, Nat.ble, ↓reduceIte, Nat.reduceAdd, Nat.reduceLeDiff, Nat.reduceBEq, Nat.reduceEqDiff, Nat.reduceLT, Nat.reduceSub, Nat.reduceMul, Int.reduceLT, Int.reduceLE, Int.reduceAdd, Int.reduceSub, Int.reduceNeg, Int.reduceToNat, Int.reduceEq, reduceCtorEq, norm_cons, norm_nil, normB, pOwn, pSel, gcS, reach, addN, getO, live, gcH, h1, get_some hi, enc16, hd, edgs, hwr, P423, hc, h3, h3', hm, List.length_append, List.cons_append, encL1, xappP, maxEl, List.set, List.mem_singleton, forall_eq, x403a2n, wrap_succ (i := i) (by omega), ih']
      | cons x r =>
        cases b with
        | nil =>
          simp only [List.length_cons, List.length_nil, Int.natCast_zero] at hbl
          simp only [hOf, List.cons_append, List.nil_append, List.length_append, List.length_cons, List.length_nil, List.length_map, Nat.zero_add, encL1] at ih' ⊢
          rw [lp_nx]; conv => lhs; arg 1; unfold x403b2
          simp only [↓sxP, sxQ, xai, xgo, xop, xG, AOp.touched, oldX, nwX, newX, xo, xput, refX, xbin, xint, loadP, loadX, ofC, xcells, xagg, Nat.blt, Value.oneCell', refsO, okGc, renO, rI, coX, Option.isSome, outS, outT, resX, tupX, lend1, lend0, scalX, xsb, pvX, zeroX, spliceG, xapp, xappP, xrd, eqP1, xstr, zpv, Nat.beq, Nat.ble, ↓reduceIte, Nat.reduceAdd, Nat.reduceLeDiff, Nat.reduceBEq, Nat.reduceEqDiff, Nat.reduceLT, Nat.reduceSub, Nat.reduceMul, Int.reduceLT, Int.reduceLE, Int.reduceAdd, Int.reduceSub, Int.reduceNeg, Int.reduceToNat, Int.reduceEq, reduceCtorEq, norm_cons, norm_nil, normB, pOwn, pSel, gcS, reach, addN, getO, live, gcH, h1, get_some hi, enc16, hd, edgs, hwr, P423, hc, h3, h3', List.length_append, List.cons_append, encL1, xappP, maxEl, List.set, List.mem_singleton, forall_eq, x403a2n, wrap_succ (i := i) (by omega), ih']
        | cons y q =>
          simp only [List.length_cons, List.length_nil, Int.natCast_zero] at hbl
          have hm : q.length ≤ 1073741822 := by omega
          simp only [hOf, List.cons_append, List.nil_append, List.length_append, List.length_cons, List.length_nil, List.length_map, Nat.zero_add, encL1] at ih' ⊢
          rw [lp_nx]; conv => lhs; arg 1; unfold x403b2
          simp only [↓sxP, sxQ, xai, xgo, xop, xG, AOp.touched, oldX, nwX, newX, xo, xput, refX, xbin, xint, loadP, loadX, ofC, xcells, xagg, Nat.blt, Value.oneCell', refsO, okGc, renO, rI, coX, Option.isSome, outS, outT, resX, tupX, lend1, lend0, scalX, xsb, pvX, zeroX, spliceG, xapp, xappP, xrd, eqP1, xstr, zpv, Nat.beq, Nat.ble, ↓reduceIte, Nat.reduceAdd, Nat.reduceLeDiff, Nat.reduceBEq, Nat.reduceEqDiff, Nat.reduceLT, Nat.reduceSub, Nat.reduceMul, Int.reduceLT, Int.reduceLE, Int.reduceAdd, Int.reduceSub, Int.reduceNeg, Int.reduceToNat, Int.reduceEq, reduceCtorEq, norm_cons, norm_nil, normB, pOwn, pSel, gcS, reach, addN, getO, live, gcH, h1, get_some hi, enc16, hd, edgs, hwr, P423, hc, h3, h3', hm, List.length_append, List.cons_append, encL1, xappP, maxEl, List.set, List.mem_singleton, forall_eq, x403a2n, wrap_succ (i := i) (by omega), ih']
    · have h3' : (0 : Int) < ((subF es[i] ws.length).length : Nat) := by omega
      have ih' := ih (i + 1) (b ++ [encL1 (subF es[i] ws.length)]) (by omega) (by simp; omega)
      rw [List.append_assoc] at ih'
      simp only [List.singleton_append] at ih'
      cases a with
      | nil =>
        cases b with
        | nil =>
          simp only [List.length_cons, List.length_nil, Int.natCast_zero] at hbl
          simp only [hOf, List.cons_append, List.nil_append, List.length_append, List.length_cons, List.length_nil, List.length_map, Nat.zero_add, encL1] at ih' ⊢
          rw [lp_nx]; conv => lhs; arg 1; unfold x403b2
          simp only [↓sxP, sxQ, xai, xgo, xop, xG, AOp.touched, oldX, nwX, newX, xo, xput, refX, xbin, xint, loadP, loadX, ofC, xcells, xagg, Nat.blt, Value.oneCell', refsO, okGc, renO, rI, coX, Option.isSome, outS, outT, resX, tupX, lend1, lend0, scalX, xsb, pvX, zeroX, spliceG, xapp, xappP, xrd, eqP1, xstr, zpv, Nat.beq, Nat.ble, ↓reduceIte, Nat.reduceAdd, Nat.reduceLeDiff, Nat.reduceBEq, Nat.reduceEqDiff, Nat.reduceLT, Nat.reduceSub, Nat.reduceMul, Int.reduceLT, Int.reduceLE, Int.reduceAdd, Int.reduceSub, Int.reduceNeg, Int.reduceToNat, Int.reduceEq, reduceCtorEq, norm_cons, norm_nil, normB, pOwn, pSel, gcS, reach, addN, getO, live, gcH, h1, get_some hi, enc16, hd, edgs, hwr, P423, hc, h3, h3', List.length_append, List.cons_append, encL1, xappP, maxEl, List.set, List.mem_singleton, forall_eq, x403a2n, wrap_succ (i := i) (by omega), ih']
        | cons y q =>
          simp only [List.length_cons, List.length_nil, Int.natCast_zero] at hbl
          have hm : q.length ≤ 1073741822 := by omega
          simp only [hOf, List.cons_append, List.nil_append, List.length_append, List.length_cons, List.length_nil, List.length_map, Nat.zero_add, encL1] at ih' ⊢
          rw [lp_nx]; conv => lhs; arg 1; unfold x403b2
          simp only [↓sxP, sxQ, xai, xgo, xop, xG, AOp.touched, oldX, nwX, newX, xo, xput, refX, xbin, xint, loadP, loadX, ofC, xcells, xagg, Nat.blt, Value.oneCell', refsO, okGc, renO, rI, coX, Option.isSome, outS, outT, resX, tupX, lend1, lend0, scalX, xsb, pvX, zeroX, spliceG, xapp, xappP, xrd, eqP1, xstr, zpv, Nat.beq, Nat.ble, ↓reduceIte, Nat.reduceAdd, Nat.reduceLeDiff, Nat.reduceBEq, Nat.reduceEqDiff, Nat.reduceLT, Nat.reduceSub, Nat.reduceMul, Int.reduceLT, Int.reduceLE, Int.reduceAdd, Int.reduceSub, Int.reduceNeg, Int.reduceToNat, Int.reduceEq, reduceCtorEq, norm_cons, norm_nil, normB, pOwn, pSel, gcS, reach, addN, getO, live, gcH, h1, get_some hi, enc16, hd, edgs, hwr, P423, hc, h3, h3', hm, List.length_append, List.cons_append, encL1, xappP, maxEl, List.set, List.mem_singleton, forall_eq, x403a2n, wrap_succ (i := i) (by omega), ih']
      | cons x r =>
        cases b with
        | nil =>
          simp only [List.length_cons, List.length_nil, Int.natCast_zero] at hbl
          simp only [hOf, List.cons_append, List.nil_append, List.length_append, List.length_cons, List.length_nil, List.length_map, Nat.zero_add, encL1] at ih' ⊢
          rw [lp_nx]; conv => lhs; arg 1; unfold x403b2
          simp only [↓sxP, sxQ, xai, xgo, xop, xG, AOp.touched, oldX, nwX, newX, xo, xput, refX, xbin, xint, loadP, loadX, ofC, xcells, xagg, Nat.blt, Value.oneCell', refsO, okGc, renO, rI, coX, Option.isSome, outS, outT, resX, tupX, lend1, lend0, scalX, xsb, pvX, zeroX, spliceG, xapp, xappP, xrd, eqP1, xstr, zpv, Nat.beq, Nat.ble, ↓reduceIte, Nat.reduceAdd, Nat.reduceLeDiff, Nat.reduceBEq, Nat.reduceEqDiff, Nat.reduceLT, Nat.reduceSub, Nat.reduceMul, Int.reduceLT, Int.reduceLE, Int.reduceAdd, Int.reduceSub, Int.reduceNeg, Int.reduceToNat, Int.reduceEq, reduceCtorEq, norm_cons, norm_nil, normB, pOwn, pSel, gcS, reach, addN, getO, live, gcH, h1, get_some hi, enc16, hd, edgs, hwr, P423, hc, h3, h3', List.length_append, List.cons_append, encL1, xappP, maxEl, List.set, List.mem_singleton, forall_eq, x403a2n, wrap_succ (i := i) (by omega), ih']
        | cons y q =>
          simp only [List.length_cons, List.length_nil, Int.natCast_zero] at hbl
          have hm : q.length ≤ 1073741822 := by omega
          simp only [hOf, List.cons_append, List.nil_append, List.length_append, List.length_cons, List.length_nil, List.length_map, Nat.zero_add, encL1] at ih' ⊢
          rw [lp_nx]; conv => lhs; arg 1; unfold x403b2
          simp only [↓sxP, sxQ, xai, xgo, xop, xG, AOp.touched, oldX, nwX, newX, xo, xput, refX, xbin, xint, loadP, loadX, ofC, xcells, xagg, Nat.blt, Value.oneCell', refsO, okGc, renO, rI, coX, Option.isSome, outS, outT, resX, tupX, lend1, lend0, scalX, xsb, pvX, zeroX, spliceG, xapp, xappP, xrd, eqP1, xstr, zpv, Nat.beq, Nat.ble, ↓reduceIte, Nat.reduceAdd, Nat.reduceLeDiff, Nat.reduceBEq, Nat.reduceEqDiff, Nat.reduceLT, Nat.reduceSub, Nat.reduceMul, Int.reduceLT, Int.reduceLE, Int.reduceAdd, Int.reduceSub, Int.reduceNeg, Int.reduceToNat, Int.reduceEq, reduceCtorEq, norm_cons, norm_nil, normB, pOwn, pSel, gcS, reach, addN, getO, live, gcH, h1, get_some hi, enc16, hd, edgs, hwr, P423, hc, h3, h3', hm, List.length_append, List.cons_append, encL1, xappP, maxEl, List.set, List.mem_singleton, forall_eq, x403a2n, wrap_succ (i := i) (by omega), ih']

theorem call403 (ws es : List Nat) (hw : ws.length ≤ 8) (hl : es.length ≤ 12) (hb : ∀ x ∈ es, x < 65536) (X : XHeap) :
    call XT 403 [.p (PV.agg [.rd 1 (ws.map enc8), .rd 1 (es.map enc16)])] X = some (.p (.tup [PV.agg [.rd 1 ((ws.map wgt).map encI), .rd 1 ((edgs ws.length es).map encL1)], .v (.bool true)]), X) := by
  refine call_pure (F := f403) (args := [PV.agg [.rd 1 (ws.map enc8), .rd 1 (es.map enc16)]]) T403 rfl rfl ?_
  unfold f403 x403
  have k1 := l403_1 ws es hw ws.length 0 [] (by omega) (by simp)
  have k2 := l403_2 ws es hl hw hb ((ws.map wgt).map encI) es.length 0 [] (by omega) (by simp)
  have h1 : ¬ (8 : Int) < ws.length := by omega
  have h2 : ¬ (12 : Int) < es.length := by omega
  simp only [List.drop_zero, Int.natCast_zero, List.nil_append, List.map_map, Function.comp_def] at k1 k2
  simp only [hOf] at k1
  generalize hg : edgs ws.length es = G at k2 ⊢
  generalize hh : (ws.map fun x => encI (wgt x)) = H at k1 k2 ⊢
  have hh' : (ws.map wgt).map encI = H := by rw [← hh]; simp
  rw [hh']
  cases G with
  | nil =>
    cases H with
    | nil =>
      simp only [hOf, hOf2, List.map_cons, List.map_nil, encL1, List.length_map] at k1 k2
      simp only [↓sxP, sxQ, xai, xgo, xop, xG, AOp.touched, oldX, nwX, newX, xo, xput, refX, xbin, xint, loadP, loadX, ofC, xcells, xagg, Nat.blt, Value.oneCell', refsO, okGc, renO, rI, coX, Option.isSome, outS, outT, resX, tupX, lend1, lend0, scalX, xsb, pvX, zeroX, spliceG, xapp, xappP, xrd, eqP1, xstr, zpv, Nat.beq, Nat.ble, ↓reduceIte, Nat.reduceAdd, Nat.reduceLeDiff, Nat.reduceBEq, Nat.reduceEqDiff, Nat.reduceLT, Nat.reduceSub, Nat.reduceMul, Int.reduceLT, Int.reduceLE, Int.reduceAdd, Int.reduceSub, Int.reduceNeg, Int.reduceToNat, Int.reduceEq, reduceCtorEq, norm_cons, norm_nil, normB, pOwn, pSel, gcS, reach, addN, getO, live, gcH, maxEl, h1, h2, List.replicate, List.set, x403a1n, x403a2n, k1, k2, take_map, List.take_length, encL1]
    | cons x r =>
      simp only [hOf, hOf2, List.map_cons, List.map_nil, encL1, List.length_map] at k1 k2
      simp only [↓sxP, sxQ, xai, xgo, xop, xG, AOp.touched, oldX, nwX, newX, xo, xput, refX, xbin, xint, loadP, loadX, ofC, xcells, xagg, Nat.blt, Value.oneCell', refsO, okGc, renO, rI, coX, Option.isSome, outS, outT, resX, tupX, lend1, lend0, scalX, xsb, pvX, zeroX, spliceG, xapp, xappP, xrd, eqP1, xstr, zpv, Nat.beq, Nat.ble, ↓reduceIte, Nat.reduceAdd, Nat.reduceLeDiff, Nat.reduceBEq, Nat.reduceEqDiff, Nat.reduceLT, Nat.reduceSub, Nat.reduceMul, Int.reduceLT, Int.reduceLE, Int.reduceAdd, Int.reduceSub, Int.reduceNeg, Int.reduceToNat, Int.reduceEq, reduceCtorEq, norm_cons, norm_nil, normB, pOwn, pSel, gcS, reach, addN, getO, live, gcH, maxEl, h1, h2, List.replicate, List.set, x403a1n, x403a2n, k1, k2, take_map, List.take_length, encL1]
  | cons y q =>
    cases H with
    | nil =>
      simp only [hOf, hOf2, List.map_cons, List.map_nil, encL1, List.length_map] at k1 k2
      simp only [↓sxP, sxQ, xai, xgo, xop, xG, AOp.touched, oldX, nwX, newX, xo, xput, refX, xbin, xint, loadP, loadX, ofC, xcells, xagg, Nat.blt, Value.oneCell', refsO, okGc, renO, rI, coX, Option.isSome, outS, outT, resX, tupX, lend1, lend0, scalX, xsb, pvX, zeroX, spliceG, xapp, xappP, xrd, eqP1, xstr, zpv, Nat.beq, Nat.ble, ↓reduceIte, Nat.reduceAdd, Nat.reduceLeDiff, Nat.reduceBEq, Nat.reduceEqDiff, Nat.reduceLT, Nat.reduceSub, Nat.reduceMul, Int.reduceLT, Int.reduceLE, Int.reduceAdd, Int.reduceSub, Int.reduceNeg, Int.reduceToNat, Int.reduceEq, reduceCtorEq, norm_cons, norm_nil, normB, pOwn, pSel, gcS, reach, addN, getO, live, gcH, maxEl, h1, h2, List.replicate, List.set, x403a1n, x403a2n, k1, k2, take_map, List.take_length, encL1]
      rfl
    | cons x r =>
      simp only [hOf, hOf2, List.map_cons, List.map_nil, encL1, List.length_map] at k1 k2
      simp only [↓sxP, sxQ, xai, xgo, xop, xG, AOp.touched, oldX, nwX, newX, xo, xput, refX, xbin, xint, loadP, loadX, ofC, xcells, xagg, Nat.blt, Value.oneCell', refsO, okGc, renO, rI, coX, Option.isSome, outS, outT, resX, tupX, lend1, lend0, scalX, xsb, pvX, zeroX, spliceG, xapp, xappP, xrd, eqP1, xstr, zpv, Nat.beq, Nat.ble, ↓reduceIte, Nat.reduceAdd, Nat.reduceLeDiff, Nat.reduceBEq, Nat.reduceEqDiff, Nat.reduceLT, Nat.reduceSub, Nat.reduceMul, Int.reduceLT, Int.reduceLE, Int.reduceAdd, Int.reduceSub, Int.reduceNeg, Int.reduceToNat, Int.reduceEq, reduceCtorEq, norm_cons, norm_nil, normB, pOwn, pSel, gcS, reach, addN, getO, live, gcH, maxEl, h1, h2, List.replicate, List.set, x403a1n, x403a2n, k1, k2, take_map, List.take_length, encL1]
      rfl

theorem bad403 (ws es : List Nat) (h : ¬ (ws.length ≤ 8 ∧ es.length ≤ 12)) (X : XHeap) :
    call XT 403 [.p (PV.agg [.rd 1 (ws.map enc8), .rd 1 (es.map enc16)])] X = some (.p (.tup [.agg [.rd 1 [], .rd 1 []], .v (.bool false)]), X) := by
  refine call_pure (F := f403) (args := [PV.agg [.rd 1 (ws.map enc8), .rd 1 (es.map enc16)]]) T403 rfl rfl ?_
  unfold f403 x403
  by_cases h1 : (8 : Int) < ws.length
  · simp only [↓sxP, sxQ, xai, xgo, xop, xG, AOp.touched, oldX, nwX, newX, xo, xput, refX, xbin, xint, loadP, loadX, ofC, xcells, xagg, Nat.blt, Value.oneCell', refsO, okGc, renO, rI, coX, Option.isSome, outS, outT, resX, tupX, lend1, lend0, scalX, xsb, pvX, zeroX, spliceG, xapp, xappP, xrd, eqP1, xstr, zpv, Nat.beq, Nat.ble, ↓reduceIte, Nat.reduceAdd, Nat.reduceLeDiff, Nat.reduceBEq, Nat.reduceEqDiff, Nat.reduceLT, Nat.reduceSub, Nat.reduceMul, Int.reduceLT, Int.reduceLE, Int.reduceAdd, Int.reduceSub, Int.reduceNeg, Int.reduceToNat, Int.reduceEq, reduceCtorEq, norm_cons, norm_nil, normB, pOwn, pSel, gcS, reach, addN, getO, live, gcH, maxEl, h1, List.replicate, List.set]
  · have h2 : (12 : Int) < es.length := by omega
    simp only [↓sxP, sxQ, xai, xgo, xop, xG, AOp.touched, oldX, nwX, newX, xo, xput, refX, xbin, xint, loadP, loadX, ofC, xcells, xagg, Nat.blt, Value.oneCell', refsO, okGc, renO, rI, coX, Option.isSome, outS, outT, resX, tupX, lend1, lend0, scalX, xsb, pvX, zeroX, spliceG, xapp, xappP, xrd, eqP1, xstr, zpv, Nat.beq, Nat.ble, ↓reduceIte, Nat.reduceAdd, Nat.reduceLeDiff, Nat.reduceBEq, Nat.reduceEqDiff, Nat.reduceLT, Nat.reduceSub, Nat.reduceMul, Int.reduceLT, Int.reduceLE, Int.reduceAdd, Int.reduceSub, Int.reduceNeg, Int.reduceToNat, Int.reduceEq, reduceCtorEq, norm_cons, norm_nil, normB, pOwn, pSel, gcS, reach, addN, getO, live, gcH, maxEl, h1, h2, List.replicate, List.set]
end Go.Abs

namespace Go.Abs
open Go
set_option linter.unusedSimpArgs false
set_option maxHeartbeats 1000000
set_option maxRecDepth 8000

def lstep (w : List Int) (e : List (List Int)) (b : Nat) (acc : Int) : Int :=
  if hitsI e (subF b w.length) = true ∧ (acc < 0 ∨ (weightI w e (subF b w.length)).1 < acc) then (weightI w e (subF b w.length)).1 else acc
def lst (w : List Int) (e : List (List Int)) : Nat → Nat → Int → Int
  | 0, _, acc => acc
  | m + 1, i, acc => lst w e m (i + 1) (lstep w e i acc)
/-- The optimum. -/
def least (w : List Int) (e : List (List Int)) : Int := lst w e (2 ^ w.length) 0 (-1)

theorem shl1 {n : Nat} (h : n ≤ 8) : IntKind.i64.wrap (1 * 2 ^ min n 64) = ((2 ^ n : Nat) : Int) := by
  have h1 : min n 64 = n := by omega
  have h2 : ((2 : Int) ^ n) = ((2 ^ n : Nat) : Int) := by simp
  have h3 : 2 ^ n ≤ 2 ^ 8 := Nat.pow_le_pow_right (by omega) h
  have h4 : 2 ^ 8 = 256 := rfl
  rw [h1, h2, Int.one_mul]
  generalize 2 ^ n = p at h3 ⊢
  rw [wrap64 _ (by omega) (by omega)]

theorem l408 (w : List Int) (e : List (List Int)) (hw : w.length ≤ 8) (he : e.length ≤ 12) (hm : ∀ a ∈ e, a.length ≤ 1048576) : ∀ m i : Nat, ∀ acc : Int, i + m = 2 ^ w.length →
    lp XT x408a1 x408b1 ⟨[(1, .ptr 0 0 0), (3, vI acc), (4, vI i)], [some (.mx 2 [[.p (.rd 1 (w.map encI)), .p (.rd 1 (e.map fun l => [PV.rd 1 (l.map encI)]))]])], 0⟩ = some (.exit 0, ⟨[(3, vI (lst w e m i acc))], [], 0⟩) := by
  intro m
  have h8 : 2 ^ w.length ≤ 2 ^ 8 := Nat.pow_le_pow_right (by omega) hw
  have hf : IntKind.i64.bits = 64 := rfl
  induction m with
  | zero =>
    intro i acc h
    have h1 : ¬ (i : Int) < ((2 ^ w.length : Nat) : Int) := by omega
    rw [lp_nx]; conv => lhs; arg 1; unfold x408b1
    simp only [↓sxP, sxQ, xai, xgo, xop, xG, AOp.touched, oldX, nwX, newX, xo, xput, refX, xbin, xint, loadP, loadX, ofC, xcells, xagg, Nat.blt, Value.oneCell', refsO, okGc, renO, rI, coX, Option.isSome, outS, outT, resX, tupX, lend1, lend0, scalX, xsb, pvX, zeroX, spliceG, xapp, xappP, xrd, eqP1, xstr, zpv, Nat.beq, Nat.ble, ↓reduceIte, Nat.reduceAdd, Nat.reduceLeDiff, Nat.reduceBEq, Nat.reduceEqDiff, Nat.reduceLT, Nat.reduceSub, Nat.reduceMul, Int.reduceLT, Int.reduceLE, Int.reduceAdd, Int.reduceSub, Int.reduceNeg, Int.reduceToNat, Int.reduceEq, reduceCtorEq, norm_cons, norm_nil, normB, pOwn, pSel, gcS, reach, addN, getO, live, gcH, h1, hf, shl1 hw, lst]
  | succ m ih =>
    intro i acc h
    have h1 : (i : Int) < ((2 ^ w.length : Nat) : Int) := by omega
    have hl := subF_len i w.length
    have hc := fun X => call423 i w.length (by omega) (by omega) X
    have hc2 := fun X => call405 w e (subF i w.length) (by omega) (by omega) hm (by omega) X
    have hc3 := fun X => call410 w e (subF i w.length) (by omega) (by omega) hm X
    have ih' := ih (i + 1) (lstep w e i acc) (by omega)
    simp only [lstep] at ih'
    rw [lp_nx]; conv => lhs; arg 1; unfold x408b1
    by_cases h2 : hitsI e (subF i w.length) = true
    · by_cases h3 : acc < 0
      · simp only [h2, h3, true_or, true_and, if_true] at ih'
        simp only [↓sxP, sxQ, xai, xgo, xop, xG, AOp.touched, oldX, nwX, newX, xo, xput, refX, xbin, xint, loadP, loadX, ofC, xcells, xagg, Nat.blt, Value.oneCell', refsO, okGc, renO, rI, coX, Option.isSome, outS, outT, resX, tupX, lend1, lend0, scalX, xsb, pvX, zeroX, spliceG, xapp, xappP, xrd, eqP1, xstr, zpv, Nat.beq, Nat.ble, ↓reduceIte, Nat.reduceAdd, Nat.reduceLeDiff, Nat.reduceBEq, Nat.reduceEqDiff, Nat.reduceLT, Nat.reduceSub, Nat.reduceMul, Int.reduceLT, Int.reduceLE, Int.reduceAdd, Int.reduceSub, Int.reduceNeg, Int.reduceToNat, Int.reduceEq, reduceCtorEq, norm_cons, norm_nil, normB, pOwn, pSel, gcS, reach, addN, getO, live, gcH, h1, h2, h3, hf, shl1 hw, lst, lstep, P423, P405, P410, hc, hc2, hc3, x408a1n, wrap_succ (i := i) (by omega), ih']
      · by_cases h4 : (weightI w e (subF i w.length)).1 < acc
        · simp only [h2, h3, h4, or_true, true_and, if_true] at ih'
          simp only [↓sxP, sxQ, xai, xgo, xop, xG, AOp.touched, oldX, nwX, newX, xo, xput, refX, xbin, xint, loadP, loadX, ofC, xcells, xagg, Nat.blt, Value.oneCell', refsO, okGc, renO, rI, coX, Option.isSome, outS, outT, resX, tupX, lend1, lend0, scalX, xsb, pvX, zeroX, spliceG, xapp, xappP, xrd, eqP1, xstr, zpv, Nat.beq, Nat.ble, ↓reduceIte, Nat.reduceAdd, Nat.reduceLeDiff, Nat.reduceBEq, Nat.reduceEqDiff, Nat.reduceLT, Nat.reduceSub, Nat.reduceMul, Int.reduceLT, Int.reduceLE, Int.reduceAdd, Int.reduceSub, Int.reduceNeg, Int.reduceToNat, Int.reduceEq, reduceCtorEq, norm_cons, norm_nil, normB, pOwn, pSel, gcS, reach, addN, getO, live, gcH, h1, h2, h3, h4, hf, shl1 hw, lst, lstep, P423, P405, P410, hc, hc2, hc3, x408a1n, wrap_succ (i := i) (by omega), ih']
        · simp only [h2, h3, h4, or_false, and_false, if_false] at ih'
          simp only [↓sxP, sxQ, xai, xgo, xop, xG, AOp.touched, oldX, nwX, newX, xo, xput, refX, xbin, xint, loadP, loadX, ofC, xcells, xagg, Nat.blt, Value.oneCell', refsO, okGc, renO, rI, coX, Option.isSome, outS, outT, resX, tupX, lend1, lend0, scalX, xsb, pvX, zeroX, spliceG, xapp, xappP, xrd, eqP1, xstr, zpv, Nat.beq, Nat.ble, ↓reduceIte, Nat.reduceAdd, Nat.reduceLeDiff, Nat.reduceBEq, Nat.reduceEqDiff, Nat.reduceLT, Nat.reduceSub, Nat.reduceMul, Int.reduceLT, Int.reduceLE, Int.reduceAdd, Int.reduceSub, Int.reduceNeg, Int.reduceToNat, Int.reduceEq, reduceCtorEq, norm_cons, norm_nil, normB, pOwn, pSel, gcS, reach, addN, getO, live, gcH, h1, h2, h3, h4, hf, shl1 hw, lst, lstep, P423, P405, P410, hc, hc2, hc3, x408a1n, wrap_succ (i := i) (by omega), ih']
    · have h2' : hitsI e (subF i w.length) = false := by simpa using h2
      simp only [h2', Bool.false_eq_true, false_and, if_false] at ih'
      simp only [↓sxP, sxQ, xai, xgo, xop, xG, AOp.touched, oldX, nwX, newX, xo, xput, refX, xbin, xint, loadP, loadX, ofC, xcells, xagg, Nat.blt, Value.oneCell', refsO, okGc, renO, rI, coX, Option.isSome, outS, outT, resX, tupX, lend1, lend0, scalX, xsb, pvX, zeroX, spliceG, xapp, xappP, xrd, eqP1, xstr, zpv, Nat.beq, Nat.ble, ↓reduceIte, Nat.reduceAdd, Nat.reduceLeDiff, Nat.reduceBEq, Nat.reduceEqDiff, Nat.reduceLT, Nat.reduceSub, Nat.reduceMul, Int.reduceLT, Int.reduceLE, Int.reduceAdd, Int.reduceSub, Int.reduceNeg, Int.reduceToNat, Int.reduceEq, reduceCtorEq, norm_cons, norm_nil, normB, pOwn, pSel, gcS, reach, addN, getO, live, gcH, h1, h2', false_and, hf, shl1 hw, lst, lstep, P423, P405, P410, hc, hc2, hc3, x408a1n, wrap_succ (i := i) (by omega), ih']

theorem call408 (w : List Int) (e : List (List Int)) (hw : w.length ≤ 8) (he : e.length ≤ 12) (hm : ∀ a ∈ e, a.length ≤ 1048576) (X : XHeap) :
    call XT 408 [.p (PV.agg [.rd 1 (w.map encI), .rd 1 (e.map fun l => [PV.rd 1 (l.map encI)])])] X = some (vI (least w e), X) := by
  refine call_pure (F := f408) (args := [PV.agg [.rd 1 (w.map encI), .rd 1 (e.map fun l => [PV.rd 1 (l.map encI)])]]) T408 rfl rfl ?_
  unfold f408 x408
  have k1 := l408 w e hw he hm (2 ^ w.length) 0 (-1) (by omega)
  simp only [Int.natCast_zero] at k1
  simp only [↓sxP, sxQ, xai, xgo, xop, xG, AOp.touched, oldX, nwX, newX, xo, xput, refX, xbin, xint, loadP, loadX, ofC, xcells, xagg, Nat.blt, Value.oneCell', refsO, okGc, renO, rI, coX, Option.isSome, outS, outT, resX, tupX, lend1, lend0, scalX, xsb, pvX, zeroX, spliceG, xapp, xappP, xrd, eqP1, xstr, zpv, Nat.beq, Nat.ble, ↓reduceIte, Nat.reduceAdd, Nat.reduceLeDiff, Nat.reduceBEq, Nat.reduceEqDiff, Nat.reduceLT, Nat.reduceSub, Nat.reduceMul, Int.reduceLT, Int.reduceLE, Int.reduceAdd, Int.reduceSub, Int.reduceNeg, Int.reduceToNat, Int.reduceEq, reduceCtorEq, norm_cons, norm_nil, normB, pOwn, pSel, gcS, reach, addN, getO, live, gcH, maxEl, x408a1n, k1, least]
end Go.Abs

namespace Go.Abs
open Go

/-! ## The least of some numbers, as the reference looks for it -/
def lgo (H : Nat → Bool) (f : Nat → Int) : Nat → Nat → Int → Int
  | 0, _, acc => acc
  | m + 1, i, acc => lgo H f m (i + 1) (if H i = true ∧ (acc < 0 ∨ f i < acc) then f i else acc)
theorem lst_lgo (w : List Int) (e : List (List Int)) : ∀ m i acc, lst w e m i acc = lgo (fun b => hitsI e (subF b w.length)) (fun b => (weightI w e (subF b w.length)).1) m i acc
  | 0, _, _ => rfl
  | m + 1, i, acc => by simp only [lst, lgo, lstep]; exact lst_lgo w e m (i + 1) _

theorem lgo_spec (H : Nat → Bool) (f : Nat → Int) (hf : ∀ b, H b = true → 0 ≤ f b) : ∀ m i acc,
    (∀ b, i ≤ b → b < i + m → H b = true → 0 ≤ lgo H f m i acc ∧ lgo H f m i acc ≤ f b) ∧ (0 ≤ acc → 0 ≤ lgo H f m i acc ∧ lgo H f m i acc ≤ acc) ∧
    (lgo H f m i acc = acc ∨ ∃ b, i ≤ b ∧ b < i + m ∧ H b = true ∧ lgo H f m i acc = f b) := by
  intro m
  induction m with
  | zero => intro i acc; exact ⟨fun b h1 h2 => by omega, fun h => ⟨h, Int.le_refl _⟩, .inl rfl⟩
  | succ m ih =>
    intro i acc
    simp only [lgo]
    by_cases hc : H i = true ∧ (acc < 0 ∨ f i < acc)
    · rw [if_pos hc]
      obtain ⟨h1, h2, h3⟩ := ih (i + 1) (f i)
      have h0 := hf i hc.1
      refine ⟨fun b hb1 hb2 hb => ?_, fun ha => ⟨(h2 h0).1, by have := (h2 h0).2; omega⟩, ?_⟩
      · by_cases e : b = i
        · subst e; exact h2 h0
        · exact h1 b (by omega) (by omega) hb
      · rcases h3 with h3 | ⟨b, k1, k2, k3, k4⟩
        · exact .inr ⟨i, Nat.le_refl _, by omega, hc.1, h3⟩
        · exact .inr ⟨b, by omega, by omega, k3, k4⟩
    · rw [if_neg hc]
      obtain ⟨h1, h2, h3⟩ := ih (i + 1) acc
      refine ⟨fun b hb1 hb2 hb => ?_, h2, ?_⟩
      · by_cases e : b = i
        · subst e
          have k1 : ¬ acc < 0 := fun h => hc ⟨hb, .inl h⟩
          have k2 : ¬ f b < acc := fun h => hc ⟨hb, .inr h⟩
          have := h2 (by omega)
          omega
        · exact h1 b (by omega) (by omega) hb
      · rcases h3 with h3 | ⟨b, k1, k2, k3, k4⟩
        · exact .inl h3
        · exact .inr ⟨b, by omega, by omega, k3, k4⟩

/-! ## Sets as bits -/
def bit (b i : Nat) : Bool := decide ((b >>> i) % 2 = 1)
theorem mem_subF (b : Nat) (v : Int) : ∀ n, v ∈ subF b n ↔ ∃ i, i < n ∧ bit b i = true ∧ v = i
  | 0 => by simp [subF]
  | n + 1 => by
    have ih := mem_subF b v n
    simp only [subF, List.mem_append, ih]
    by_cases h : (b >>> n) % 2 = 1
    · simp only [h, if_true, List.mem_singleton]
      constructor
      · rintro (⟨i, h1, h2, h3⟩ | h1)
        · exact ⟨i, by omega, h2, h3⟩
        · exact ⟨n, by omega, by simp [bit, h], h1⟩
      · rintro ⟨i, h1, h2, h3⟩
        by_cases e : i = n
        · subst e; exact .inr h3
        · exact .inl ⟨i, by omega, h2, h3⟩
    · simp only [h, if_false, List.not_mem_nil, or_false]
      constructor
      · rintro ⟨i, h1, h2, h3⟩; exact ⟨i, by omega, h2, h3⟩
      · rintro ⟨i, h1, h2, h3⟩
        have : i ≠ n := fun e => by subst e; simp [bit, h] at h2
        exact ⟨i, by omega, h2, h3⟩

/-- The weight of a set. -/
def wtS (w : List Int) (p : Nat → Bool) : Nat → Int
  | 0 => 0
  | n + 1 => wtS w p n + if p n = true then w.getD n 0 else 0

theorem wsum_snoc (w : List Int) (v : Int) : ∀ (l pre : List Int) (s : Int), wsum w pre (l ++ [v]) s =
    (wsum w pre l s).bind fun t => if v < 0 ∨ (w.length : Int) ≤ v ∨ v ∈ pre ++ l then none else some (IntKind.i64.wrap (t + w.getD v.toNat 0))
  | [], pre, s => by simp [wsum]
  | x :: r, pre, s => by
    simp only [List.cons_append, wsum]
    split
    · rfl
    · rw [wsum_snoc w v r (pre ++ [x])]; simp

theorem wtS_le (w : List Int) (hw : ∀ x ∈ w, 0 ≤ x ∧ x ≤ 1000000) (p : Nat → Bool) : ∀ n, 0 ≤ wtS w p n ∧ wtS w p n ≤ n * 1000000
  | 0 => by simp [wtS]
  | n + 1 => by
    have ih := wtS_le w hw p n
    have h1 : 0 ≤ w.getD n 0 ∧ w.getD n 0 ≤ 1000000 := by
      by_cases h : n < w.length
      · rw [List.getD_eq_getElem?_getD, List.getElem?_eq_getElem h]; exact hw _ (List.getElem_mem h)
      · rw [List.getD_eq_getElem?_getD, List.getElem?_eq_none (by omega)]; simp
    simp only [wtS]
    split <;> omega

theorem wsum_sub (w : List Int) (hw : ∀ x ∈ w, 0 ≤ x ∧ x ≤ 1000000) (hl : w.length ≤ 200) (b : Nat) : ∀ n, n ≤ w.length → wsum w [] (subF b n) 0 = some (wtS w (bit b) n)
  | 0, _ => rfl
  | n + 1, h => by
    have ih := wsum_sub w hw hl b n (by omega)
    by_cases hb : (b >>> n) % 2 = 1
    · have hn : ¬ ((n : Int) < 0 ∨ (w.length : Int) ≤ n ∨ (n : Int) ∈ [] ++ subF b n) := by
        rintro (h1 | h1 | h1)
        · omega
        · omega
        · obtain ⟨i, h2, _, h3⟩ := (mem_subF b n n).1 (by simpa using h1)
          omega
      have h1 := wtS_le w hw (bit b) (n + 1)
      have hbt : bit b n = true := by simp [bit, hb]
      simp only [subF, hb, if_true, wsum_snoc, ih, Option.bind_some, hn, if_false, wtS, hbt, Int.toNat_natCast] at h1 ⊢
      rw [wrap64 _ (by omega) (by omega)]
    · have hbt : ¬ bit b n = true := by simp [bit, hb]
      simp [subF, hb, ih, wtS, hbt]

theorem valid_w {w : List Int} {e : List (List Int)} (h : validI w e = 0) : (∀ x ∈ w, 1 ≤ x ∧ x ≤ 1000000) ∧ w.length ≤ 200 ∧ ∀ l ∈ e, okE w.length l = true := by
  unfold validI at h
  split at h
  · cases h
  · rename_i h1
    split at h
    · rename_i h2
      simp only [Bool.and_eq_true, List.all_eq_true] at h2
      refine ⟨fun x hx => ?_, by omega, h2.2⟩
      have := h2.1 x hx
      simp only [okW, Bool.and_eq_true, decide_eq_true_eq] at this
      omega
    · cases h

theorem weight_sub {w : List Int} {e : List (List Int)} (h : validI w e = 0) (b : Nat) : weightI w e (subF b w.length) = (wtS w (bit b) w.length, 0) := by
  obtain ⟨h1, h2, _⟩ := valid_w h
  unfold weightI
  rw [if_neg (by simp [h]), wsum_sub w (fun x hx => ⟨by have := h1 x hx; omega, (h1 x hx).2⟩) h2 b w.length (Nat.le_refl _)]

/-- The optimum is the least weight of a hitting set of bits, if there is one. -/
theorem least_spec {w : List Int} {e : List (List Int)} (h : validI w e = 0) :
    (∀ b, b < 2 ^ w.length → hitsI e (subF b w.length) = true → 0 ≤ least w e ∧ least w e ≤ wtS w (bit b) w.length) ∧
    ((∃ b, b < 2 ^ w.length ∧ hitsI e (subF b w.length) = true) → ∃ b, b < 2 ^ w.length ∧ hitsI e (subF b w.length) = true ∧ least w e = wtS w (bit b) w.length) := by
  obtain ⟨h1, h2, _⟩ := valid_w h
  have hp := fun b => wtS_le w (fun x hx => ⟨by have := h1 x hx; omega, (h1 x hx).2⟩) (bit b) w.length
  have hf : ∀ b, (weightI w e (subF b w.length)).1 = wtS w (bit b) w.length := fun b => by rw [weight_sub h]
  unfold least
  rw [lst_lgo]
  obtain ⟨k1, _, k3⟩ := lgo_spec (fun b => hitsI e (subF b w.length)) (fun b => (weightI w e (subF b w.length)).1) (fun b _ => by simp only [hf]; exact (hp b).1) (2 ^ w.length) 0 (-1)
  refine ⟨fun b hb hh => by have := k1 b (by omega) (by omega) hh; simp only [hf] at this; simpa only [hf] using this, ?_⟩
  rintro ⟨b, hb, hh⟩
  have := k1 b (by omega) (by omega) hh
  rcases k3 with k3 | ⟨c, _, c2, c3, c4⟩
  · omega
  · refine ⟨c, by omega, c3, ?_⟩
    rw [c4, hf]
end Go.Abs

namespace Go.Abs
open Go

def bitsP (p : Nat → Bool) : Nat → Nat
  | 0 => 0
  | n + 1 => bitsP p n + if p n = true then 2 ^ n else 0
theorem bitsP_lt (p : Nat → Bool) : ∀ n, bitsP p n < 2 ^ n
  | 0 => by simp [bitsP]
  | n + 1 => by
    have := bitsP_lt p n
    simp only [bitsP, Nat.pow_succ]
    split <;> omega
theorem bit_test (b i : Nat) : bit b i = b.testBit i := by
  rw [Nat.testBit_eq_decide_div_mod_eq, bit, Nat.shiftRight_eq_div_pow]
theorem bitsP_bit (p : Nat → Bool) : ∀ n i, i < n → bit (bitsP p n) i = p i
  | 0, i, h => by omega
  | n + 1, i, h => by
    have ih := bitsP_bit p n
    have hl := bitsP_lt p n
    rw [bit_test]
    simp only [bitsP]
    by_cases e : i = n
    · subst e
      by_cases hp : p i = true
      · rw [if_pos hp, Nat.add_comm, Nat.testBit_two_pow_add_eq, Nat.testBit_lt_two_pow hl, hp]; rfl
      · rw [if_neg hp, Nat.add_zero, Nat.testBit_lt_two_pow hl]; simpa using hp
    · have hi := ih i (by omega)
      rw [bit_test] at hi
      by_cases hp : p n = true
      · rw [if_pos hp, Nat.add_comm, Nat.testBit_two_pow_add_gt (by omega), hi]
      · rw [if_neg hp, Nat.add_zero, hi]

theorem asc_mem (n : Int) : ∀ (l : List Int) (last : Int), asc n last l = true → ∀ v ∈ l, last < v ∧ v < n
  | [], _, _, v, h => by cases h
  | x :: r, last, h, v, hv => by
    simp only [asc, Bool.and_eq_true, decide_eq_true_eq] at h
    rcases List.mem_cons.1 hv with rfl | hv
    · exact ⟨h.1.1, h.1.2⟩
    · have := asc_mem n r x h.2 v hv
      exact ⟨by omega, this.2⟩
theorem okE_mem {n : Nat} {l : List Int} (h : okE n l = true) : (∀ v ∈ l, 0 ≤ v ∧ v.toNat < n) ∧ l ≠ [] := by
  simp only [okE, Bool.and_eq_true] at h
  refine ⟨fun v hv => ?_, fun e => by subst e; simp at h⟩
  have := asc_mem n l (-1) h.1 v hv
  omega

/-- A set of vertices meets each edge. -/
def hitP (e : List (List Int)) (p : Nat → Bool) : Prop := ∀ a ∈ e, ∃ v ∈ a, p v.toNat = true

theorem hits_sub {w : List Int} {e : List (List Int)} (h : validI w e = 0) (b : Nat) : hitsI e (subF b w.length) = true ↔ hitP e (bit b) := by
  obtain ⟨_, _, h3⟩ := valid_w h
  simp only [hitsI, List.all_eq_true, meet, List.any_eq_true, decide_eq_true_eq, hitP]
  constructor
  · intro hh a ha
    obtain ⟨v, hv, hm⟩ := hh a ha
    obtain ⟨i, _, h2, h4⟩ := (mem_subF b v _).1 hm
    exact ⟨v, hv, by subst h4; simpa using h2⟩
  · intro hh a ha
    obtain ⟨v, hv, hm⟩ := hh a ha
    have := (okE_mem (h3 a ha)).1 v hv
    exact ⟨v, hv, (mem_subF b v _).2 ⟨v.toNat, this.2, hm, by omega⟩⟩

theorem wtS_congr (w : List Int) (p q : Nat → Bool) : ∀ n, (∀ i, i < n → p i = q i) → wtS w p n = wtS w q n
  | 0, _ => rfl
  | n + 1, h => by simp only [wtS, wtS_congr w p q n (fun i hi => h i (by omega)), h n (by omega)]

/-- The optimum is at most the weight of any hitting set. -/
theorem least_le {w : List Int} {e : List (List Int)} (h : validI w e = 0) {p : Nat → Bool} (hp : hitP e p) : 0 ≤ least w e ∧ least w e ≤ wtS w p w.length := by
  have h1 := (least_spec h).1 (bitsP p w.length) (bitsP_lt _ _) ((hits_sub h _).2 fun a ha => by
    obtain ⟨v, hv, hm⟩ := hp a ha
    have := (okE_mem ((valid_w h).2.2 a ha)).1 v hv
    exact ⟨v, hv, by rw [bitsP_bit p _ _ this.2]; exact hm⟩)
  rw [wtS_congr w (bit (bitsP p w.length)) p _ (fun i hi => bitsP_bit p _ i hi)] at h1
  exact h1
/-- It is the weight of a hitting set. -/
theorem least_ex {w : List Int} {e : List (List Int)} (h : validI w e = 0) : ∃ p, hitP e p ∧ least w e = wtS w p w.length := by
  obtain ⟨b, _, h2, h3⟩ := (least_spec h).2 ⟨bitsP (fun _ => true) w.length, bitsP_lt _ _, (hits_sub h _).2 fun a ha => by
    have := okE_mem ((valid_w h).2.2 a ha)
    cases a with
    | nil => exact absurd rfl this.2
    | cons v r => exact ⟨v, List.mem_cons_self .., by rw [bitsP_bit _ _ _ (this.1 v (List.mem_cons_self ..)).2]⟩⟩
  exact ⟨bit b, (hits_sub h b).1 h2, h3⟩

/-! ## Packings -/
def sumP (p : Nat → Bool) (f : Nat → Int) : Nat → Int
  | 0 => 0
  | n + 1 => sumP p f n + if p n = true then f n else 0
theorem wtS_sum (w : List Int) (p : Nat → Bool) : ∀ n, wtS w p n = sumP p (fun i => w.getD i 0) n
  | 0 => rfl
  | n + 1 => by simp only [wtS, sumP, wtS_sum w p n]
theorem sumP_le (p : Nat → Bool) (f g : Nat → Int) : ∀ n, (∀ i, i < n → p i = true → f i ≤ g i) → sumP p f n ≤ sumP p g n
  | 0, _ => Int.le_refl _
  | n + 1, h => by
    have := sumP_le p f g n (fun i hi => h i (by omega))
    have h2 := h n (by omega)
    simp only [sumP]
    by_cases hp : p n = true
    · have := h2 hp; simp only [hp, if_true]; omega
    · simp only [if_neg hp]; omega
theorem sumP_add (p : Nat → Bool) (f g : Nat → Int) : ∀ n, sumP p (fun i => f i + g i) n = sumP p f n + sumP p g n
  | 0 => rfl
  | n + 1 => by
    simp only [sumP, sumP_add p f g n]
    split <;> omega
/-- How much the shares take of a vertex. -/
def load (l : List (List Int × Int)) (v : Nat) : Int := (l.map fun s => if (v : Int) ∈ s.1 then s.2 else 0).sum
theorem load_cons (s : List Int × Int) (l : List (List Int × Int)) (v : Nat) : load (s :: l) v = (if (v : Int) ∈ s.1 then s.2 else 0) + load l v := by simp [load]
theorem sumP_nonneg (p : Nat → Bool) (f : Nat → Int) : ∀ n, (∀ i, i < n → p i = true → 0 ≤ f i) → 0 ≤ sumP p f n
  | 0, _ => Int.le_refl _
  | n + 1, h => by
    have := sumP_nonneg p f n (fun i hi => h i (by omega))
    have h2 := h n (by omega)
    simp only [sumP]
    by_cases hp : p n = true
    · have := h2 hp; simp only [hp, if_true]; omega
    · simp only [if_neg hp]; omega
theorem sumP_one (p : Nat → Bool) (f : Nat → Int) (c : Int) (k : Nat) : ∀ n, k < n → p k = true → c ≤ f k → (∀ i, i < n → p i = true → 0 ≤ f i) → c ≤ sumP p f n
  | 0, h, _, _, _ => by omega
  | n + 1, h, hk, hc, hf => by
    have h2 := hf n (by omega)
    by_cases e : k = n
    · subst e
      have := sumP_nonneg p f k (fun i hi => hf i (by omega))
      simp only [sumP, hk, if_true]; omega
    · have := sumP_one p f c k n (by omega) hk hc (fun i hi => hf i (by omega))
      simp only [sumP]
      by_cases hp : p n = true
      · have := h2 hp; simp only [hp, if_true]; omega
      · simp only [if_neg hp]; omega

/-- The shares' sum is at most what they take of a set that meets all their edges. -/
theorem pack_le (p : Nat → Bool) (n : Nat) : ∀ (l : List (List Int × Int)), (∀ s ∈ l, 0 ≤ s.2 ∧ ∃ v ∈ s.1, 0 ≤ v ∧ v.toNat < n ∧ p v.toNat = true) → (l.map (·.2)).sum ≤ sumP p (load l) n
  | [], _ => by simpa using sumP_nonneg p (load []) n (fun i _ _ => by simp [load])
  | s :: l, h => by
    have ih := pack_le p n l (fun t ht => h t (List.mem_cons_of_mem _ ht))
    obtain ⟨h0, v, hv, h1, h2, h3⟩ := h s (List.mem_cons_self ..)
    have e : sumP p (load (s :: l)) n = sumP p (fun i => (if (i : Int) ∈ s.1 then s.2 else 0) + load l i) n := by
      have : load (s :: l) = fun i : Nat => (if (i : Int) ∈ s.1 then s.2 else 0) + load l i := by funext i; exact load_cons s l i
      rw [this]
    rw [e, sumP_add]
    have k := sumP_one p (fun i => if (i : Int) ∈ s.1 then s.2 else 0) s.2 v.toNat n h2 h3 (by
      have : ((v.toNat : Nat) : Int) = v := by omega
      simp [this, hv]) (fun i _ _ => by split <;> omega)
    simp only [List.map_cons, List.sum_cons]
    omega
/-- Right shares sum up to at most the optimum. -/
theorem pack_least {w : List Int} {e : List (List Int)} (h : validI w e = 0) (l : List (List Int × Int)) (hl : ∀ s ∈ l, s.1 ∈ e ∧ 0 ≤ s.2) (hw : ∀ v, v < w.length → load l v ≤ w.getD v 0) :
    (l.map (·.2)).sum ≤ least w e := by
  obtain ⟨p, hp, he⟩ := least_ex h
  rw [he, wtS_sum]
  refine Int.le_trans (pack_le p w.length l fun s hs => ?_) (sumP_le p _ _ _ fun i hi _ => hw i hi)
  obtain ⟨h1, h2⟩ := hl s hs
  obtain ⟨v, hv, hm⟩ := hp _ h1
  have := (okE_mem ((valid_w h).2.2 _ h1)).1 v hv
  exact ⟨h2, v, hv, this.1, this.2, hm⟩
end Go.Abs
