/- The search of chapter 39: dead. No condition. -/
import Derived.Test.YtgegamaadohibaaHr
namespace Go.Abs
open Go
set_option linter.unusedSimpArgs false
set_option maxHeartbeats 2000000
set_option maxRecDepth 8000

/-- Has an edge excluded vertices only? -/
def deadE (mk l : List Int) : Bool := !hasM mk l 1 && !hasM mk l 0
def deadM (mk : List Int) (e : List (List Int)) : Bool := e.any (deadE mk)

theorem call454 {Y : XHeap} {a m p : Nat} {w : List Int} {e : List (List Int)} {mk : List Int} {left : Int} {l : List Int} (hY : closedX Y = true) (h1 : Y[p]? = some (some (.mx 1 [[.ptr a 0 0]])))
    (h3 : Y[a]? = some (some (.mx 4 [[.p (.rd 1 (w.map encI)), .p (.rd 1 (e.map fun l => [PV.rd 1 (l.map encI)])), .ref m 0 mk.length, vI left]]))) (h4 : Y[m]? = some (some (.pu 1 (mk.map encI)))) (hl : l.length ≤ 1048576) (hv : ∀ v ∈ l, 0 ≤ v ∧ v.toNat < mk.length) :
    call XT 454 [.p (.rd 1 (l.map encI)), .ptr p 0 0] Y = some (vB (deadE mk l), Y) := by
  refine call_impure (F := f454) T454 rfl rfl ?_
  unfold f454 x454
  have hn := norm_rules hY
  have k1 := call450 (k := 1) hY h3 h4 hl hv
  have k0 := call450 (k := 0) hY h3 h4 hl hv
  by_cases h5 : hasM mk l 1 = true
  · simp only [↓sxP, sxQ, xai, xgo, xop, xG, AOp.touched, oldX, nwX, newX, xo, xput, refX, xbin, xint, loadP, loadX, ofC, xcells, xagg, Nat.blt, Value.oneCell', refsO, okGc, renO, rI, coX, Option.isSome, outS, outT, resX, tupX, lend1, lend0, scalX, xsb, pvX, zeroX, spliceG, xapp, xappP, xrd, eqP1, xstr, zpv, Nat.beq, Nat.ble, ↓reduceIte, Nat.reduceAdd, Nat.reduceLeDiff, Nat.reduceBEq, Nat.reduceEqDiff, Nat.reduceLT, Nat.reduceSub, Nat.reduceMul, Int.reduceLT, Int.reduceLE, Int.reduceAdd, Int.reduceSub, Int.reduceNeg, Int.reduceToNat, Int.reduceEq, reduceCtorEq, normC, selK, gcH, List.all_append, ble_self, h1, P450, k1, k0, h5, hn, deadE]
  · have h5' : hasM mk l 1 = false := by simpa using h5
    simp only [↓sxP, sxQ, xai, xgo, xop, xG, AOp.touched, oldX, nwX, newX, xo, xput, refX, xbin, xint, loadP, loadX, ofC, xcells, xagg, Nat.blt, Value.oneCell', refsO, okGc, renO, rI, coX, Option.isSome, outS, outT, resX, tupX, lend1, lend0, scalX, xsb, pvX, zeroX, spliceG, xapp, xappP, xrd, eqP1, xstr, zpv, Nat.beq, Nat.ble, ↓reduceIte, Nat.reduceAdd, Nat.reduceLeDiff, Nat.reduceBEq, Nat.reduceEqDiff, Nat.reduceLT, Nat.reduceSub, Nat.reduceMul, Int.reduceLT, Int.reduceLE, Int.reduceAdd, Int.reduceSub, Int.reduceNeg, Int.reduceToNat, Int.reduceEq, reduceCtorEq, normC, selK, gcH, List.all_append, ble_self, h1, P450, k1, k0, h5', hn, deadE]

theorem call444 {X : XHeap} {a m : Nat} {w : List Int} {e : List (List Int)} {mk : List Int} {left : Int} (hX : closedX X = true)
    (h3 : X[a]? = some (some (.mx 4 [[.p (.rd 1 (w.map encI)), .p (.rd 1 (e.map fun l => [PV.rd 1 (l.map encI)])), .ref m 0 mk.length, vI left]]))) (h4 : X[m]? = some (some (.pu 1 (mk.map encI)))) (he : e.length ≤ 1048576) (hm : ∀ l ∈ e, l.length ≤ 1048576) (hv : ∀ l ∈ e, ∀ v ∈ l, 0 ≤ v ∧ v.toNat < mk.length) :
    call XT 444 [.ptr a 0 0] X = some (vB (deadM mk e), X) := by
  refine call_impure (F := f444) T444 rfl rfl ?_
  unfold f444 x444
  have hY : closedX (X ++ [some (.mx 1 [[.ptr a 0 0]])]) = true := closed_app hX fun o ho => by
    simp only [List.mem_cons, List.not_mem_nil, or_false] at ho
    subst ho
    simp only [refsO, refsLL, refsL, refsV, List.append_nil, List.all_cons, List.all_nil, Bool.and_true]
    exact live_app (live_get h3)
  have hl0 : live (X ++ [some (.mx 1 [[.ptr a 0 0]])]) X.length = true := live_get (get_app0 _ _ _)
  have hc := call435 e he 454 [.ptr X.length 0 0] (X ++ [some (.mx 1 [[.ptr a 0 0]])]) hY (by simp only [refsL, refsV, List.append_nil, List.cons_append, List.nil_append, List.all_cons, List.all_nil, hl0, Bool.and_self]) (deadE mk) (fun l hl => by
    show xcall _ _ _ _ _ _ = _
    rw [xcall_imp P454]; exact call454 hY (get_app0 _ _ _) (get_appL h3 _) (get_appL h4 _) (hm l hl) (hv l hl))
  have hg := gc_rules hX
  have ho := old_rules (live_get h3)
  have ho2 : Nat.ble (a + 1) X.length = true := ho.2.1
  have h3' := fun N => get_appL h3 N
  simp only [↓sxP, sxQ, xai, xgo, xop, xG, AOp.touched, oldX, nwX, newX, xo, xput, refX, xbin, xint, loadP, loadX, ofC, xcells, xagg, Nat.blt, Value.oneCell', refsO, okGc, renO, rI, coX, Option.isSome, outS, outT, resX, tupX, lend1, lend0, scalX, xsb, pvX, zeroX, spliceG, xapp, xappP, xrd, eqP1, xstr, zpv, Nat.beq, Nat.ble, ↓reduceIte, Nat.reduceAdd, Nat.reduceLeDiff, Nat.reduceBEq, Nat.reduceEqDiff, Nat.reduceLT, Nat.reduceSub, Nat.reduceMul, Int.reduceLT, Int.reduceLE, Int.reduceAdd, Int.reduceSub, Int.reduceNeg, Int.reduceToNat, Int.reduceEq, reduceCtorEq, norm_cons, norm_nil, normB, pOwn, pSel, reach, addN, getO, live, ble_self, ble_add, blt_self, blt_add, beq_self, beq_add, beq_addr, beq_addl, get_appk, get_appz, set_appk, set_appz, len_app, List.append_assoc, List.cons_append, ble_s1, ble_s2, maxEl, hg, ho, ho2, h3', P435, hc, deadM]
end Go.Abs

namespace Go.Abs
open Go
set_option linter.unusedSimpArgs false
set_option maxHeartbeats 4000000
set_option maxRecDepth 8000

/-- The loads with the shares of an edge, unless one is too much. -/
def addL (w mk : List Int) (am : Int) : List Int → List Int → Option (List Int)
  | [], ld => some ld
  | v :: r, ld => if mk.getD v.toNat 0 = 0 ∧ w.getD v.toNat 0 < IntKind.i64.wrap (ld.getD v.toNat 0 + am) then none else addL w mk am r (ld.set v.toNat (IntKind.i64.wrap (ld.getD v.toNat 0 + am)))
theorem addL_len (w mk : List Int) (am : Int) : ∀ (l ld ld' : List Int), addL w mk am l ld = some ld' → ld'.length = ld.length
  | [], ld, ld', h => by simp only [addL, Option.some.injEq] at h; rw [h]
  | v :: r, ld, ld', h => by
    simp only [addL] at h
    split at h
    · cases h
    · rw [addL_len w mk am r _ _ h]; simp

theorem l446_1 {X : XHeap} {a m : Nat} {w : List Int} {e : List (List Int)} {mk : List Int} {left : Int} (hX : closedX X = true)
    (h3 : X[a]? = some (some (.mx 4 [[.p (.rd 1 (w.map encI)), .p (.rd 1 (e.map fun l => [PV.rd 1 (l.map encI)])), .ref m 0 mk.length, vI left]]))) (h4 : X[m]? = some (some (.pu 1 (mk.map encI)))) (hw : w.length = mk.length) (bound s y1 am : Int) (sh : List (Int × Int)) (k : Nat) (l : List Int)
    (hl : l.length ≤ 1048576) (hv : ∀ v ∈ l, 0 ≤ v ∧ v.toNat < mk.length) : ∀ n i : Nat, ∀ ld : List Int, ld.length = mk.length → i + n = l.length →
    lp XT x446a1 x446b1 ⟨[(0, .ptr a 0 0), (2, vI bound), (7, .ref X.length 0 mk.length), (8, vI s), (10, .ptr (X.length + 1) 0 0), (22, .p (.rd 2 (sh.map encSI))), (23, vI sh.length), (24, vI k), (77, .p (.rd 1 (l.map encI))), (78, vI l.length), (79, vI i)], X ++ [some (.pu 1 (ld.map encI)), some (.mx 2 [[vI y1, vI am]])], X.length⟩ =
      match addL w mk am (l.drop i) ld with
      | some ld' => some (.exit 2, ⟨[(0, .ptr a 0 0), (2, vI bound), (7, .ref X.length 0 mk.length), (8, vI s), (22, .p (.rd 2 (sh.map encSI))), (23, vI sh.length), (24, vI k)], X ++ [some (.pu 1 (ld'.map encI))], X.length⟩)
      | none => some (.ret, ⟨[(6, vB false)], X, X.length⟩) := by
  intro n
  have hg := gc_rules hX
  have ho := old_rules (live_get h3)
  have ho2 : Nat.ble (a + 1) X.length = true := ho.2.1
  have h3' := fun N => get_appL h3 N
  have h4' := fun N => get_appL h4 N
  induction n with
  | zero =>
    intro i ld hr h
    have h1 : ¬ (i : Int) < l.length := by omega
    have h2 : l.drop i = [] := List.drop_of_length_le (by omega)
    rw [lp_nx]; conv => lhs; arg 1; unfold x446b1
    simp only [↓sxP, sxQ, xai, xgo, xop, xG, AOp.touched, oldX, nwX, newX, xo, xput, refX, xbin, xint, loadP, loadX, ofC, xcells, xagg, Nat.blt, Value.oneCell', refsO, okGc, renO, rI, coX, Option.isSome, outS, outT, resX, tupX, lend1, lend0, scalX, xsb, pvX, zeroX, spliceG, xapp, xappP, xrd, eqP1, xstr, zpv, Nat.beq, Nat.ble, ↓reduceIte, Nat.reduceAdd, Nat.reduceLeDiff, Nat.reduceBEq, Nat.reduceEqDiff, Nat.reduceLT, Nat.reduceSub, Nat.reduceMul, Int.reduceLT, Int.reduceLE, Int.reduceAdd, Int.reduceSub, Int.reduceNeg, Int.reduceToNat, Int.reduceEq, reduceCtorEq, norm_cons, norm_nil, normB, pOwn, pSel, reach, addN, getO, live, ble_self, ble_add, blt_self, blt_add, beq_self, beq_add, beq_addr, beq_addl, get_appk, get_appz, set_appk, set_appz, len_app, List.append_assoc, List.cons_append, ble_s1, ble_s2, h1, h2, hg, ho, ho2, h3', h4', addL]
  | succ n ih =>
    intro i ld hr h
    have hi : i < l.length := by omega
    have h1 : (i : Int) < l.length := by omega
    have hvi := hv l[i] (List.getElem_mem hi)
    have h5 : mk[l[i].toNat]? = some (mk.getD l[i].toNat 0) := getD_some hvi.2
    have h6 : l[i] < (mk.length : Int) := by omega
    have h7 : ld[l[i].toNat]? = some (ld.getD l[i].toNat 0) := getD_some (by omega)
    have h8 : w[l[i].toNat]? = some (w.getD l[i].toNat 0) := getD_some (by omega)
    have h9 : (ld.set l[i].toNat (IntKind.i64.wrap (ld.getD l[i].toNat 0 + am)))[l[i].toNat]? = some (IntKind.i64.wrap (ld.getD l[i].toNat 0 + am)) := by
      rw [List.getElem?_set_self (by omega)]
    have ih' := ih (i + 1) (ld.set l[i].toNat (IntKind.i64.wrap (ld.getD l[i].toNat 0 + am))) (by simp [hr]) (by omega)
    have hd := drop_cons hi
    rw [lp_nx]; conv => lhs; arg 1; unfold x446b1
    by_cases c1 : mk.getD l[i].toNat 0 = 0
    · by_cases c2 : w.getD l[i].toNat 0 < IntKind.i64.wrap (ld.getD l[i].toNat 0 + am)
      · simp only [↓sxP, sxQ, xai, xgo, xop, xG, AOp.touched, oldX, nwX, newX, xo, xput, refX, xbin, xint, loadP, loadX, ofC, xcells, xagg, Nat.blt, Value.oneCell', refsO, okGc, renO, rI, coX, Option.isSome, outS, outT, resX, tupX, lend1, lend0, scalX, xsb, pvX, zeroX, spliceG, xapp, xappP, xrd, eqP1, xstr, zpv, Nat.beq, Nat.ble, ↓reduceIte, Nat.reduceAdd, Nat.reduceLeDiff, Nat.reduceBEq, Nat.reduceEqDiff, Nat.reduceLT, Nat.reduceSub, Nat.reduceMul, Int.reduceLT, Int.reduceLE, Int.reduceAdd, Int.reduceSub, Int.reduceNeg, Int.reduceToNat, Int.reduceEq, reduceCtorEq, norm_cons, norm_nil, normB, pOwn, pSel, reach, addN, getO, live, ble_self, ble_add, blt_self, blt_add, beq_self, beq_add, beq_addr, beq_addl, get_appk, get_appz, set_appk, set_appz, len_app, List.append_assoc, List.cons_append, ble_s1, ble_s2, h1, get_some hi, hg, ho, ho2, h3', h4', h5, h6, h7, h8, h9, hr, hvi, c1, c2, encI, splice, map_setI, List.length_set, Nat.le_refl, hd, addL, and_self]
      · simp only [↓sxP, sxQ, xai, xgo, xop, xG, AOp.touched, oldX, nwX, newX, xo, xput, refX, xbin, xint, loadP, loadX, ofC, xcells, xagg, Nat.blt, Value.oneCell', refsO, okGc, renO, rI, coX, Option.isSome, outS, outT, resX, tupX, lend1, lend0, scalX, xsb, pvX, zeroX, spliceG, xapp, xappP, xrd, eqP1, xstr, zpv, Nat.beq, Nat.ble, ↓reduceIte, Nat.reduceAdd, Nat.reduceLeDiff, Nat.reduceBEq, Nat.reduceEqDiff, Nat.reduceLT, Nat.reduceSub, Nat.reduceMul, Int.reduceLT, Int.reduceLE, Int.reduceAdd, Int.reduceSub, Int.reduceNeg, Int.reduceToNat, Int.reduceEq, reduceCtorEq, norm_cons, norm_nil, normB, pOwn, pSel, reach, addN, getO, live, ble_self, ble_add, blt_self, blt_add, beq_self, beq_add, beq_addr, beq_addl, get_appk, get_appz, set_appk, set_appz, len_app, List.append_assoc, List.cons_append, ble_s1, ble_s2, h1, get_some hi, hg, ho, ho2, h3', h4', h5, h6, h7, h8, h9, hr, hvi, c1, c2, encI, splice, map_setI, List.length_set, Nat.le_refl, hd, addL, and_false, x446a1n, wrap_succ (i := i) (by omega)]
        simpa only [encI] using ih'
    · simp only [↓sxP, sxQ, xai, xgo, xop, xG, AOp.touched, oldX, nwX, newX, xo, xput, refX, xbin, xint, loadP, loadX, ofC, xcells, xagg, Nat.blt, Value.oneCell', refsO, okGc, renO, rI, coX, Option.isSome, outS, outT, resX, tupX, lend1, lend0, scalX, xsb, pvX, zeroX, spliceG, xapp, xappP, xrd, eqP1, xstr, zpv, Nat.beq, Nat.ble, ↓reduceIte, Nat.reduceAdd, Nat.reduceLeDiff, Nat.reduceBEq, Nat.reduceEqDiff, Nat.reduceLT, Nat.reduceSub, Nat.reduceMul, Int.reduceLT, Int.reduceLE, Int.reduceAdd, Int.reduceSub, Int.reduceNeg, Int.reduceToNat, Int.reduceEq, reduceCtorEq, norm_cons, norm_nil, normB, pOwn, pSel, reach, addN, getO, live, ble_self, ble_add, blt_self, blt_add, beq_self, beq_add, beq_addr, beq_addl, get_appk, get_appz, set_appk, set_appz, len_app, List.append_assoc, List.cons_append, ble_s1, ble_s2, h1, get_some hi, hg, ho, ho2, h3', h4', h5, h6, h7, h8, h9, hr, hvi, c1, encI, splice, map_setI, List.length_set, Nat.le_refl, hd, addL, false_and, x446a1n, wrap_succ (i := i) (by omega)]
      simpa only [encI] using ih'
end Go.Abs

namespace Go.Abs
open Go
set_option linter.unusedSimpArgs false
set_option maxHeartbeats 8000000
set_option maxRecDepth 8000

/-- Are the shares possible in this state? Then their sum. -/
def shG (w : List Int) (e : List (List Int)) (mk : List Int) : List (Int × Int) → List Int → Int → Option Int
  | [], _, s => some s
  | y :: r, ld, s => if y.1 < 0 ∨ (e.length : Int) ≤ y.1 ∨ y.2 < 1 ∨ 1000000000000 < y.2 ∨ hasM mk (e.getD y.1.toNat []) 1 = true then none else
    match addL w mk y.2 (e.getD y.1.toNat []) ld with
    | some ld' => shG w e mk r ld' (IntKind.i64.wrap (s + y.2))
    | none => none

theorem l446_2 {X : XHeap} {a m : Nat} {w : List Int} {e : List (List Int)} {mk : List Int} {left : Int} (hX : closedX X = true)
    (h3 : X[a]? = some (some (.mx 4 [[.p (.rd 1 (w.map encI)), .p (.rd 1 (e.map fun l => [PV.rd 1 (l.map encI)])), .ref m 0 mk.length, vI left]]))) (h4 : X[m]? = some (some (.pu 1 (mk.map encI)))) (hw : w.length = mk.length) (bound : Int) (sh : List (Int × Int)) (hs : sh.length ≤ 1048576)
    (hm : ∀ l ∈ e, l.length ≤ 1048576) (hv : ∀ l ∈ e, ∀ v ∈ l, 0 ≤ v ∧ v.toNat < mk.length) : ∀ n i : Nat, ∀ ld : List Int, ∀ s : Int, ld.length = mk.length → i + n = sh.length →
    lp XT x446a2 x446b2 ⟨[(0, .ptr a 0 0), (2, vI bound), (7, .ref X.length 0 mk.length), (8, vI s), (22, .p (.rd 2 (sh.map encSI))), (23, vI sh.length), (24, vI i)], X ++ [some (.pu 1 (ld.map encI))], X.length⟩ =
      match shG w e mk (sh.drop i) ld s with
      | some t => some (.exit 0, ⟨[(2, vI bound), (8, vI t)], X, X.length⟩)
      | none => some (.ret, ⟨[(6, vB false)], X, X.length⟩) := by
  intro n
  have hg := gc_rules hX
  have ho := old_rules (live_get h3)
  have ho2 : Nat.ble (a + 1) X.length = true := ho.2.1
  have h3' := fun N => get_appL h3 N
  have h4' := fun N => get_appL h4 N
  induction n with
  | zero =>
    intro i ld s hr h
    have h1 : ¬ (i : Int) < sh.length := by omega
    have h2 : sh.drop i = [] := List.drop_of_length_le (by omega)
    rw [lp_nx]; conv => lhs; arg 1; unfold x446b2
    simp only [↓sxP, sxQ, xai, xgo, xop, xG, AOp.touched, oldX, nwX, newX, xo, xput, refX, xbin, xint, loadP, loadX, ofC, xcells, xagg, Nat.blt, Value.oneCell', refsO, okGc, renO, rI, coX, Option.isSome, outS, outT, resX, tupX, lend1, lend0, scalX, xsb, pvX, zeroX, spliceG, xapp, xappP, xrd, eqP1, xstr, zpv, Nat.beq, Nat.ble, ↓reduceIte, Nat.reduceAdd, Nat.reduceLeDiff, Nat.reduceBEq, Nat.reduceEqDiff, Nat.reduceLT, Nat.reduceSub, Nat.reduceMul, Int.reduceLT, Int.reduceLE, Int.reduceAdd, Int.reduceSub, Int.reduceNeg, Int.reduceToNat, Int.reduceEq, reduceCtorEq, norm_cons, norm_nil, normB, pOwn, pSel, reach, addN, getO, live, ble_self, ble_add, blt_self, blt_add, beq_self, beq_add, beq_addr, beq_addl, get_appk, get_appz, set_appk, set_appz, len_app, List.append_assoc, List.cons_append, ble_s1, ble_s2, h1, h2, hg, ho, ho2, h3', h4', shG]
  | succ n ih =>
    intro i ld s hr h
    have hi : i < sh.length := by omega
    have h1 : (i : Int) < sh.length := by omega
    have hd := drop_cons hi
    rw [lp_nx]; conv => lhs; arg 1; unfold x446b2
    by_cases c1 : sh[i].1 < 0
    · simp only [↓sxP, sxQ, xai, xgo, xop, xG, AOp.touched, oldX, nwX, newX, xo, xput, refX, xbin, xint, loadP, loadX, ofC, xcells, xagg, Nat.blt, Value.oneCell', refsO, okGc, renO, rI, coX, Option.isSome, outS, outT, resX, tupX, lend1, lend0, scalX, xsb, pvX, zeroX, spliceG, xapp, xappP, xrd, eqP1, xstr, zpv, Nat.beq, Nat.ble, ↓reduceIte, Nat.reduceAdd, Nat.reduceLeDiff, Nat.reduceBEq, Nat.reduceEqDiff, Nat.reduceLT, Nat.reduceSub, Nat.reduceMul, Int.reduceLT, Int.reduceLE, Int.reduceAdd, Int.reduceSub, Int.reduceNeg, Int.reduceToNat, Int.reduceEq, reduceCtorEq, norm_cons, norm_nil, normB, pOwn, pSel, reach, addN, getO, live, ble_self, ble_add, blt_self, blt_add, beq_self, beq_add, beq_addr, beq_addl, get_appk, get_appz, set_appk, set_appz, len_app, List.append_assoc, List.cons_append, ble_s1, ble_s2, h1, get_some hi, hg, ho, ho2, h3', h4', c1, encSI, splice, hd, shG]
    · by_cases c2 : (e.length : Int) ≤ sh[i].1
      · simp only [↓sxP, sxQ, xai, xgo, xop, xG, AOp.touched, oldX, nwX, newX, xo, xput, refX, xbin, xint, loadP, loadX, ofC, xcells, xagg, Nat.blt, Value.oneCell', refsO, okGc, renO, rI, coX, Option.isSome, outS, outT, resX, tupX, lend1, lend0, scalX, xsb, pvX, zeroX, spliceG, xapp, xappP, xrd, eqP1, xstr, zpv, Nat.beq, Nat.ble, ↓reduceIte, Nat.reduceAdd, Nat.reduceLeDiff, Nat.reduceBEq, Nat.reduceEqDiff, Nat.reduceLT, Nat.reduceSub, Nat.reduceMul, Int.reduceLT, Int.reduceLE, Int.reduceAdd, Int.reduceSub, Int.reduceNeg, Int.reduceToNat, Int.reduceEq, reduceCtorEq, norm_cons, norm_nil, normB, pOwn, pSel, reach, addN, getO, live, ble_self, ble_add, blt_self, blt_add, beq_self, beq_add, beq_addr, beq_addl, get_appk, get_appz, set_appk, set_appz, len_app, List.append_assoc, List.cons_append, ble_s1, ble_s2, h1, get_some hi, hg, ho, ho2, h3', h4', c1, c2, encSI, splice, hd, shG]
      · by_cases c3 : sh[i].2 < 1
        · simp only [↓sxP, sxQ, xai, xgo, xop, xG, AOp.touched, oldX, nwX, newX, xo, xput, refX, xbin, xint, loadP, loadX, ofC, xcells, xagg, Nat.blt, Value.oneCell', refsO, okGc, renO, rI, coX, Option.isSome, outS, outT, resX, tupX, lend1, lend0, scalX, xsb, pvX, zeroX, spliceG, xapp, xappP, xrd, eqP1, xstr, zpv, Nat.beq, Nat.ble, ↓reduceIte, Nat.reduceAdd, Nat.reduceLeDiff, Nat.reduceBEq, Nat.reduceEqDiff, Nat.reduceLT, Nat.reduceSub, Nat.reduceMul, Int.reduceLT, Int.reduceLE, Int.reduceAdd, Int.reduceSub, Int.reduceNeg, Int.reduceToNat, Int.reduceEq, reduceCtorEq, norm_cons, norm_nil, normB, pOwn, pSel, reach, addN, getO, live, ble_self, ble_add, blt_self, blt_add, beq_self, beq_add, beq_addr, beq_addl, get_appk, get_appz, set_appk, set_appz, len_app, List.append_assoc, List.cons_append, ble_s1, ble_s2, h1, get_some hi, hg, ho, ho2, h3', h4', c1, c2, c3, encSI, splice, hd, shG]
        · by_cases c4 : 1000000000000 < sh[i].2
          · simp only [↓sxP, sxQ, xai, xgo, xop, xG, AOp.touched, oldX, nwX, newX, xo, xput, refX, xbin, xint, loadP, loadX, ofC, xcells, xagg, Nat.blt, Value.oneCell', refsO, okGc, renO, rI, coX, Option.isSome, outS, outT, resX, tupX, lend1, lend0, scalX, xsb, pvX, zeroX, spliceG, xapp, xappP, xrd, eqP1, xstr, zpv, Nat.beq, Nat.ble, ↓reduceIte, Nat.reduceAdd, Nat.reduceLeDiff, Nat.reduceBEq, Nat.reduceEqDiff, Nat.reduceLT, Nat.reduceSub, Nat.reduceMul, Int.reduceLT, Int.reduceLE, Int.reduceAdd, Int.reduceSub, Int.reduceNeg, Int.reduceToNat, Int.reduceEq, reduceCtorEq, norm_cons, norm_nil, normB, pOwn, pSel, reach, addN, getO, live, ble_self, ble_add, blt_self, blt_add, beq_self, beq_add, beq_addr, beq_addl, get_appk, get_appz, set_appk, set_appz, len_app, List.append_assoc, List.cons_append, ble_s1, ble_s2, h1, get_some hi, hg, ho, ho2, h3', h4', c1, c2, c3, c4, encSI, splice, hd, shG]
          · have h6 : e[sh[i].1.toNat]? = some (e.getD sh[i].1.toNat []) := get_edge (by omega)
            have h7 : 0 ≤ sh[i].1 := by omega
            have h8 : sh[i].1 < (e.length : Int) := by omega
            have hmi := hm _ (List.mem_of_getElem? h6)
            have hvi := hv _ (List.mem_of_getElem? h6)
            have hXN : closedX (X ++ [some (.pu 1 (ld.map encI)), some (.mx 2 [[vI sh[i].1, vI sh[i].2]])]) = true := closed_app hX fun o ho => by
              simp only [List.mem_cons, List.not_mem_nil, or_false] at ho
              rcases ho with rfl | rfl <;> rfl
            have hc := call450 (k := 1) (l := e.getD sh[i].1.toNat []) hXN (get_appL h3 _) (get_appL h4 _) hmi hvi
            by_cases c5 : hasM mk (e.getD sh[i].1.toNat []) 1 = true
            · simp only [↓sxP, sxQ, xai, xgo, xop, xG, AOp.touched, oldX, nwX, newX, xo, xput, refX, xbin, xint, loadP, loadX, ofC, xcells, xagg, Nat.blt, Value.oneCell', refsO, okGc, renO, rI, coX, Option.isSome, outS, outT, resX, tupX, lend1, lend0, scalX, xsb, pvX, zeroX, spliceG, xapp, xappP, xrd, eqP1, xstr, zpv, Nat.beq, Nat.ble, ↓reduceIte, Nat.reduceAdd, Nat.reduceLeDiff, Nat.reduceBEq, Nat.reduceEqDiff, Nat.reduceLT, Nat.reduceSub, Nat.reduceMul, Int.reduceLT, Int.reduceLE, Int.reduceAdd, Int.reduceSub, Int.reduceNeg, Int.reduceToNat, Int.reduceEq, reduceCtorEq, norm_cons, norm_nil, normB, pOwn, pSel, reach, addN, getO, live, ble_self, ble_add, blt_self, blt_add, beq_self, beq_add, beq_addr, beq_addl, get_appk, get_appz, set_appk, set_appz, len_app, List.append_assoc, List.cons_append, ble_s1, ble_s2, h1, get_some hi, hg, ho, ho2, h3', h4', c1, c2, c3, c4, c5, h6, h7, h8, P450, hc, encSI, splice, hd, shG]
            · have c5' : hasM mk (e.getD sh[i].1.toNat []) 1 = false := by simpa using c5
              have k1 := l446_1 hX h3 h4 hw bound (IntKind.i64.wrap (s + sh[i].2)) sh[i].1 sh[i].2 sh i (e.getD sh[i].1.toNat []) hmi hvi (e.getD sh[i].1.toNat []).length 0 ld hr (by omega)
              simp only [List.drop_zero, Int.natCast_zero] at k1
              cases h9 : addL w mk sh[i].2 (e.getD sh[i].1.toNat []) ld with
              | none =>
                rw [h9] at k1
                simp only [↓sxP, sxQ, xai, xgo, xop, xG, AOp.touched, oldX, nwX, newX, xo, xput, refX, xbin, xint, loadP, loadX, ofC, xcells, xagg, Nat.blt, Value.oneCell', refsO, okGc, renO, rI, coX, Option.isSome, outS, outT, resX, tupX, lend1, lend0, scalX, xsb, pvX, zeroX, spliceG, xapp, xappP, xrd, eqP1, xstr, zpv, Nat.beq, Nat.ble, ↓reduceIte, Nat.reduceAdd, Nat.reduceLeDiff, Nat.reduceBEq, Nat.reduceEqDiff, Nat.reduceLT, Nat.reduceSub, Nat.reduceMul, Int.reduceLT, Int.reduceLE, Int.reduceAdd, Int.reduceSub, Int.reduceNeg, Int.reduceToNat, Int.reduceEq, reduceCtorEq, norm_cons, norm_nil, normB, pOwn, pSel, reach, addN, getO, live, ble_self, ble_add, blt_self, blt_add, beq_self, beq_add, beq_addr, beq_addl, get_appk, get_appz, set_appk, set_appz, len_app, List.append_assoc, List.cons_append, ble_s1, ble_s2, h1, get_some hi, hg, ho, ho2, h3', h4', c1, c2, c3, c4, c5', h6, h7, h8, h9, P450, hc, encSI, splice, hd, shG, x446a1n, hr, k1]
              | some ld' =>
                rw [h9] at k1
                have ih' := ih (i + 1) ld' (IntKind.i64.wrap (s + sh[i].2)) (by rw [addL_len _ _ _ _ _ _ h9]; exact hr) (by omega)
                simp only [↓sxP, sxQ, xai, xgo, xop, xG, AOp.touched, oldX, nwX, newX, xo, xput, refX, xbin, xint, loadP, loadX, ofC, xcells, xagg, Nat.blt, Value.oneCell', refsO, okGc, renO, rI, coX, Option.isSome, outS, outT, resX, tupX, lend1, lend0, scalX, xsb, pvX, zeroX, spliceG, xapp, xappP, xrd, eqP1, xstr, zpv, Nat.beq, Nat.ble, ↓reduceIte, Nat.reduceAdd, Nat.reduceLeDiff, Nat.reduceBEq, Nat.reduceEqDiff, Nat.reduceLT, Nat.reduceSub, Nat.reduceMul, Int.reduceLT, Int.reduceLE, Int.reduceAdd, Int.reduceSub, Int.reduceNeg, Int.reduceToNat, Int.reduceEq, reduceCtorEq, norm_cons, norm_nil, normB, pOwn, pSel, reach, addN, getO, live, ble_self, ble_add, blt_self, blt_add, beq_self, beq_add, beq_addr, beq_addl, get_appk, get_appz, set_appk, set_appz, len_app, List.append_assoc, List.cons_append, ble_s1, ble_s2, h1, get_some hi, hg, ho, ho2, h3', h4', c1, c2, c3, c4, c5', h6, h7, h8, h9, P450, hc, encSI, splice, hd, shG, x446a1n, hr, k1, x446a2n, wrap_succ (i := i) (by omega), ih']

/-- Are the shares right in this state? -/
def sharesI (w : List Int) (e : List (List Int)) (mk : List Int) (sh : List (Int × Int)) (bound : Int) : Bool :=
  if 10000 < sh.length then false else match shG w e mk sh (List.replicate mk.length 0) 0 with | some t => decide (bound ≤ t) | none => false

theorem call446 {X : XHeap} {a m : Nat} {w : List Int} {e : List (List Int)} {mk : List Int} {left : Int} (hX : closedX X = true)
    (h3 : X[a]? = some (some (.mx 4 [[.p (.rd 1 (w.map encI)), .p (.rd 1 (e.map fun l => [PV.rd 1 (l.map encI)])), .ref m 0 mk.length, vI left]]))) (h4 : X[m]? = some (some (.pu 1 (mk.map encI)))) (hw : w.length = mk.length) (hw2 : w.length ≤ 1048576) (bound : Int) (sh : List (Int × Int)) (hs : sh.length ≤ 1048576)
    (hm : ∀ l ∈ e, l.length ≤ 1048576) (hv : ∀ l ∈ e, ∀ v ∈ l, 0 ≤ v ∧ v.toNat < mk.length) :
    call XT 446 [.ptr a 0 0, .p (.rd 2 (sh.map encSI)), vI bound] X = some (vB (sharesI w e mk sh bound), X) := by
  refine call_impure (F := f446) T446 rfl rfl ?_
  unfold f446 x446
  have hg := gc_rules hX
  have hn := norm_rules hX
  have hs' := gc_same hX
  have ho := old_rules (live_get h3)
  have ho2 : Nat.ble (a + 1) X.length = true := ho.2.1
  have h3' := fun N => get_appL h3 N
  have h4' := fun N => get_appL h4 N
  by_cases c1 : (10000 : Int) < sh.length
  · have c1' : 10000 < sh.length := by omega
    simp only [↓sxP, sxQ, xai, xgo, xop, xG, AOp.touched, oldX, nwX, newX, xo, xput, refX, xbin, xint, loadP, loadX, ofC, xcells, xagg, Nat.blt, Value.oneCell', refsO, okGc, renO, rI, coX, Option.isSome, outS, outT, resX, tupX, lend1, lend0, scalX, xsb, pvX, zeroX, spliceG, xapp, xappP, xrd, eqP1, xstr, zpv, Nat.beq, Nat.ble, ↓reduceIte, Nat.reduceAdd, Nat.reduceLeDiff, Nat.reduceBEq, Nat.reduceEqDiff, Nat.reduceLT, Nat.reduceSub, Nat.reduceMul, Int.reduceLT, Int.reduceLE, Int.reduceAdd, Int.reduceSub, Int.reduceNeg, Int.reduceToNat, Int.reduceEq, reduceCtorEq, normC, selK, gcH, List.all_append, ble_self, h3, h4, hn, c1, c1', sharesI]
  · have c1' : ¬ 10000 < sh.length := by omega
    have k1 := l446_2 hX h3 h4 hw bound sh hs hm hv sh.length 0 (List.replicate mk.length 0) 0 (by simp) (by omega)
    simp only [List.drop_zero, Int.natCast_zero, rep_enc] at k1
    have c2 : (mk.length : Int) ≤ ((1073741824 : Nat) : Int) := by omega
    cases h9 : shG w e mk sh (List.replicate mk.length 0) 0 with
    | none =>
      rw [h9] at k1
      simp only [↓sxP, sxQ, xai, xgo, xop, xG, AOp.touched, oldX, nwX, newX, xo, xput, refX, xbin, xint, loadP, loadX, ofC, xcells, xagg, Nat.blt, Value.oneCell', refsO, okGc, renO, rI, coX, Option.isSome, outS, outT, resX, tupX, lend1, lend0, scalX, xsb, pvX, zeroX, spliceG, xapp, xappP, xrd, eqP1, xstr, zpv, Nat.beq, Nat.ble, ↓reduceIte, Nat.reduceAdd, Nat.reduceLeDiff, Nat.reduceBEq, Nat.reduceEqDiff, Nat.reduceLT, Nat.reduceSub, Nat.reduceMul, Int.reduceLT, Int.reduceLE, Int.reduceAdd, Int.reduceSub, Int.reduceNeg, Int.reduceToNat, Int.reduceEq, reduceCtorEq, norm_cons, norm_nil, normB, pOwn, pSel, reach, addN, getO, live, ble_self, ble_add, blt_self, blt_add, beq_self, beq_add, beq_addr, beq_addl, get_appk, get_appz, set_appk, set_appz, len_app, List.append_assoc, List.cons_append, ble_s1, ble_s2, maxEl, hg, ho, ho2, h3, h3', h4, h4', c1, c1', c2, hs', sharesI, x446a2n, k1, h9, Int.le_refl]
    | some t =>
      rw [h9] at k1
      simp only [↓sxP, sxQ, xai, xgo, xop, xG, AOp.touched, oldX, nwX, newX, xo, xput, refX, xbin, xint, loadP, loadX, ofC, xcells, xagg, Nat.blt, Value.oneCell', refsO, okGc, renO, rI, coX, Option.isSome, outS, outT, resX, tupX, lend1, lend0, scalX, xsb, pvX, zeroX, spliceG, xapp, xappP, xrd, eqP1, xstr, zpv, Nat.beq, Nat.ble, ↓reduceIte, Nat.reduceAdd, Nat.reduceLeDiff, Nat.reduceBEq, Nat.reduceEqDiff, Nat.reduceLT, Nat.reduceSub, Nat.reduceMul, Int.reduceLT, Int.reduceLE, Int.reduceAdd, Int.reduceSub, Int.reduceNeg, Int.reduceToNat, Int.reduceEq, reduceCtorEq, norm_cons, norm_nil, normB, pOwn, pSel, reach, addN, getO, live, ble_self, ble_add, blt_self, blt_add, beq_self, beq_add, beq_addr, beq_addl, get_appk, get_appz, set_appk, set_appz, len_app, List.append_assoc, List.cons_append, ble_s1, ble_s2, maxEl, hg, ho, ho2, h3, h3', h4, h4', c1, c1', c2, hs', sharesI, x446a2n, k1, h9, Int.le_refl]
end Go.Abs

namespace Go.Abs
open Go
set_option linter.unusedSimpArgs false
set_option maxHeartbeats 2000000
set_option maxRecDepth 8000

theorem l447_1 (w : List Int) (e : List (List Int)) (c x : List Int) (bound : Int) (hx : x.length ≤ 1048576) (k : Nat) (l : List Int) (hk : e[k]? = some l) (hl : l.length ≤ 1048576) : ∀ m i : Nat, ∀ b : Bool, i + m = l.length →
    lp XT x447a1 x447b1 ⟨[(2, .ptr 0 0 0), (3, .ptr 1 0 0), (5, vI k), (6, vB b), (7, vI i)], [some (.mx 2 [[.p (.rd 1 (w.map encI)), .p (.rd 1 (e.map fun l => [PV.rd 1 (l.map encI)]))]]), some (.mx 3 [[.p (.rd 1 (c.map encI)), .p (.rd 1 (x.map encI)), vI bound]])], 0⟩ =
      some (.exit 2, ⟨[(2, .ptr 0 0 0), (3, .ptr 1 0 0), (5, vI k), (6, vB (b && (l.drop i).all fun v => decide (v ∈ x)))], [some (.mx 2 [[.p (.rd 1 (w.map encI)), .p (.rd 1 (e.map fun l => [PV.rd 1 (l.map encI)]))]]), some (.mx 3 [[.p (.rd 1 (c.map encI)), .p (.rd 1 (x.map encI)), vI bound]])], 0⟩) := by
  intro m
  induction m with
  | zero =>
    intro i b h
    have h1 : ¬ (i : Int) < l.length := by omega
    have h2 : l.drop i = [] := List.drop_of_length_le (by omega)
    rw [lp_nx]; conv => lhs; arg 1; unfold x447b1
    simp only [↓sxP, sxQ, xai, xgo, xop, xG, AOp.touched, oldX, nwX, newX, xo, xput, refX, xbin, xint, loadP, loadX, ofC, xcells, xagg, Nat.blt, Value.oneCell', refsO, okGc, renO, rI, coX, Option.isSome, outS, outT, resX, tupX, lend1, lend0, scalX, xsb, pvX, zeroX, spliceG, xapp, xappP, xrd, eqP1, xstr, zpv, Nat.beq, Nat.ble, ↓reduceIte, Nat.reduceAdd, Nat.reduceLeDiff, Nat.reduceBEq, Nat.reduceEqDiff, Nat.reduceLT, Nat.reduceSub, Nat.reduceMul, Int.reduceLT, Int.reduceLE, Int.reduceAdd, Int.reduceSub, Int.reduceNeg, Int.reduceToNat, Int.reduceEq, reduceCtorEq, norm_cons, norm_nil, normB, pOwn, pSel, gcS, reach, addN, getO, live, gcH, hk, h1, h2]
  | succ m ih =>
    intro i b h
    have hi : i < l.length := by omega
    have h1 : (i : Int) < l.length := by omega
    have hd := drop_cons hi
    have hc := fun X => call428 l[i] x hx X
    rw [lp_nx]; conv => lhs; arg 1; unfold x447b1
    cases b with
    | false =>
      simp only [↓sxP, sxQ, xai, xgo, xop, xG, AOp.touched, oldX, nwX, newX, xo, xput, refX, xbin, xint, loadP, loadX, ofC, xcells, xagg, Nat.blt, Value.oneCell', refsO, okGc, renO, rI, coX, Option.isSome, outS, outT, resX, tupX, lend1, lend0, scalX, xsb, pvX, zeroX, spliceG, xapp, xappP, xrd, eqP1, xstr, zpv, Nat.beq, Nat.ble, ↓reduceIte, Nat.reduceAdd, Nat.reduceLeDiff, Nat.reduceBEq, Nat.reduceEqDiff, Nat.reduceLT, Nat.reduceSub, Nat.reduceMul, Int.reduceLT, Int.reduceLE, Int.reduceAdd, Int.reduceSub, Int.reduceNeg, Int.reduceToNat, Int.reduceEq, reduceCtorEq, norm_cons, norm_nil, normB, pOwn, pSel, gcS, reach, addN, getO, live, gcH, hk, h1, get_some hi, encI, hd, x447a1n, wrap_succ (i := i) (by omega), ih (i + 1) _ (by omega)]
    | true =>
      simp only [↓sxP, sxQ, xai, xgo, xop, xG, AOp.touched, oldX, nwX, newX, xo, xput, refX, xbin, xint, loadP, loadX, ofC, xcells, xagg, Nat.blt, Value.oneCell', refsO, okGc, renO, rI, coX, Option.isSome, outS, outT, resX, tupX, lend1, lend0, scalX, xsb, pvX, zeroX, spliceG, xapp, xappP, xrd, eqP1, xstr, zpv, Nat.beq, Nat.ble, ↓reduceIte, Nat.reduceAdd, Nat.reduceLeDiff, Nat.reduceBEq, Nat.reduceEqDiff, Nat.reduceLT, Nat.reduceSub, Nat.reduceMul, Int.reduceLT, Int.reduceLE, Int.reduceAdd, Int.reduceSub, Int.reduceNeg, Int.reduceToNat, Int.reduceEq, reduceCtorEq, norm_cons, norm_nil, normB, pOwn, pSel, gcS, reach, addN, getO, live, gcH, hk, h1, get_some hi, encI, hd, P428, hc, x447a1n, wrap_succ (i := i) (by omega), ih (i + 1) _ (by omega)]

/-- Has an edge excluded vertices only? -/
def closedI (e : List (List Int)) (x : List Int) : Bool := e.any fun l => l.all fun v => decide (v ∈ x)

theorem l447_2 (w : List Int) (e : List (List Int)) (c x : List Int) (bound : Int) (hx : x.length ≤ 1048576) (he : e.length ≤ 1048576) (hm : ∀ l ∈ e, l.length ≤ 1048576) : ∀ m i : Nat, i + m = e.length →
    lp XT x447a2 x447b2 ⟨[(2, .ptr 0 0 0), (3, .ptr 1 0 0), (5, vI i)], [some (.mx 2 [[.p (.rd 1 (w.map encI)), .p (.rd 1 (e.map fun l => [PV.rd 1 (l.map encI)]))]]), some (.mx 3 [[.p (.rd 1 (c.map encI)), .p (.rd 1 (x.map encI)), vI bound]])], 0⟩ =
      if closedI (e.drop i) x = true then some (.ret, ⟨[(4, vB true)], [], 0⟩) else some (.exit 0, ⟨[], [], 0⟩) := by
  intro m
  induction m with
  | zero =>
    intro i h
    have h1 : ¬ (i : Int) < e.length := by omega
    have h2 : e.drop i = [] := List.drop_of_length_le (by omega)
    rw [lp_nx]; conv => lhs; arg 1; unfold x447b2
    simp only [↓sxP, sxQ, xai, xgo, xop, xG, AOp.touched, oldX, nwX, newX, xo, xput, refX, xbin, xint, loadP, loadX, ofC, xcells, xagg, Nat.blt, Value.oneCell', refsO, okGc, renO, rI, coX, Option.isSome, outS, outT, resX, tupX, lend1, lend0, scalX, xsb, pvX, zeroX, spliceG, xapp, xappP, xrd, eqP1, xstr, zpv, Nat.beq, Nat.ble, ↓reduceIte, Nat.reduceAdd, Nat.reduceLeDiff, Nat.reduceBEq, Nat.reduceEqDiff, Nat.reduceLT, Nat.reduceSub, Nat.reduceMul, Int.reduceLT, Int.reduceLE, Int.reduceAdd, Int.reduceSub, Int.reduceNeg, Int.reduceToNat, Int.reduceEq, reduceCtorEq, norm_cons, norm_nil, normB, pOwn, pSel, gcS, reach, addN, getO, live, gcH, h1, h2, closedI]
  | succ m ih =>
    intro i h
    have hi : i < e.length := by omega
    have h1 : (i : Int) < e.length := by omega
    have hd := drop_cons hi
    have k1 := l447_1 w e c x bound hx i e[i] (get_some hi) (hm _ (List.getElem_mem hi)) e[i].length 0 true (by omega)
    simp only [List.drop_zero, Int.natCast_zero, Bool.true_and] at k1
    have ih' := ih (i + 1) (by omega)
    simp only [closedI] at ih'
    rw [lp_nx]; conv => lhs; arg 1; unfold x447b2
    by_cases h3 : (e[i].all fun v => decide (v ∈ x)) = true
    · simp only [↓sxP, sxQ, xai, xgo, xop, xG, AOp.touched, oldX, nwX, newX, xo, xput, refX, xbin, xint, loadP, loadX, ofC, xcells, xagg, Nat.blt, Value.oneCell', refsO, okGc, renO, rI, coX, Option.isSome, outS, outT, resX, tupX, lend1, lend0, scalX, xsb, pvX, zeroX, spliceG, xapp, xappP, xrd, eqP1, xstr, zpv, Nat.beq, Nat.ble, ↓reduceIte, Nat.reduceAdd, Nat.reduceLeDiff, Nat.reduceBEq, Nat.reduceEqDiff, Nat.reduceLT, Nat.reduceSub, Nat.reduceMul, Int.reduceLT, Int.reduceLE, Int.reduceAdd, Int.reduceSub, Int.reduceNeg, Int.reduceToNat, Int.reduceEq, reduceCtorEq, norm_cons, norm_nil, normB, pOwn, pSel, gcS, reach, addN, getO, live, gcH, h1, get_some hi, hd, x447a1n, k1, h3, closedI]
    · have h3' : (e[i].all fun v => decide (v ∈ x)) = false := by simpa using h3
      simp only [↓sxP, sxQ, xai, xgo, xop, xG, AOp.touched, oldX, nwX, newX, xo, xput, refX, xbin, xint, loadP, loadX, ofC, xcells, xagg, Nat.blt, Value.oneCell', refsO, okGc, renO, rI, coX, Option.isSome, outS, outT, resX, tupX, lend1, lend0, scalX, xsb, pvX, zeroX, spliceG, xapp, xappP, xrd, eqP1, xstr, zpv, Nat.beq, Nat.ble, ↓reduceIte, Nat.reduceAdd, Nat.reduceLeDiff, Nat.reduceBEq, Nat.reduceEqDiff, Nat.reduceLT, Nat.reduceSub, Nat.reduceMul, Int.reduceLT, Int.reduceLE, Int.reduceAdd, Int.reduceSub, Int.reduceNeg, Int.reduceToNat, Int.reduceEq, reduceCtorEq, norm_cons, norm_nil, normB, pOwn, pSel, gcS, reach, addN, getO, live, gcH, h1, get_some hi, hd, x447a1n, k1, h3', closedI, x447a2n, wrap_succ (i := i) (by omega), ih']
      rfl

theorem call447 (w : List Int) (e : List (List Int)) (c x : List Int) (bound : Int) (hx : x.length ≤ 1048576) (he : e.length ≤ 1048576) (hm : ∀ l ∈ e, l.length ≤ 1048576) (X : XHeap) :
    call XT 447 [.p (PV.agg [.rd 1 (w.map encI), .rd 1 (e.map fun l => [PV.rd 1 (l.map encI)])]), .p (PV.agg [.rd 1 (c.map encI), .rd 1 (x.map encI), pI bound])] X = some (vB (closedI e x), X) := by
  refine call_pure (F := f447) (args := [PV.agg [.rd 1 (w.map encI), .rd 1 (e.map fun l => [PV.rd 1 (l.map encI)])], PV.agg [.rd 1 (c.map encI), .rd 1 (x.map encI), pI bound]]) T447 rfl rfl ?_
  unfold f447 x447
  have k1 := l447_2 w e c x bound hx he hm e.length 0 (by omega)
  simp only [List.drop_zero, Int.natCast_zero] at k1
  by_cases h : closedI e x = true
  · simp only [↓sxP, sxQ, xai, xgo, xop, xG, AOp.touched, oldX, nwX, newX, xo, xput, refX, xbin, xint, loadP, loadX, ofC, xcells, xagg, Nat.blt, Value.oneCell', refsO, okGc, renO, rI, coX, Option.isSome, outS, outT, resX, tupX, lend1, lend0, scalX, xsb, pvX, zeroX, spliceG, xapp, xappP, xrd, eqP1, xstr, zpv, Nat.beq, Nat.ble, ↓reduceIte, Nat.reduceAdd, Nat.reduceLeDiff, Nat.reduceBEq, Nat.reduceEqDiff, Nat.reduceLT, Nat.reduceSub, Nat.reduceMul, Int.reduceLT, Int.reduceLE, Int.reduceAdd, Int.reduceSub, Int.reduceNeg, Int.reduceToNat, Int.reduceEq, reduceCtorEq, norm_cons, norm_nil, normB, pOwn, pSel, gcS, reach, addN, getO, live, gcH, maxEl, x447a2n, k1, h]
  · have h' : closedI e x = false := by simpa using h
    simp only [↓sxP, sxQ, xai, xgo, xop, xG, AOp.touched, oldX, nwX, newX, xo, xput, refX, xbin, xint, loadP, loadX, ofC, xcells, xagg, Nat.blt, Value.oneCell', refsO, okGc, renO, rI, coX, Option.isSome, outS, outT, resX, tupX, lend1, lend0, scalX, xsb, pvX, zeroX, spliceG, xapp, xappP, xrd, eqP1, xstr, zpv, Nat.beq, Nat.ble, ↓reduceIte, Nat.reduceAdd, Nat.reduceLeDiff, Nat.reduceBEq, Nat.reduceEqDiff, Nat.reduceLT, Nat.reduceSub, Nat.reduceMul, Int.reduceLT, Int.reduceLE, Int.reduceAdd, Int.reduceSub, Int.reduceNeg, Int.reduceToNat, Int.reduceEq, reduceCtorEq, norm_cons, norm_nil, normB, pOwn, pSel, gcS, reach, addN, getO, live, gcH, maxEl, x447a2n, k1, h', Bool.false_eq_true, if_false]
end Go.Abs

namespace Go.Abs
open Go
set_option linter.unusedSimpArgs false
set_option maxHeartbeats 8000000
set_option maxRecDepth 8000

abbrev Nd := Int × List (Int × Int)
/-- Is a leaf right? -/
def leafR (w : List Int) (e : List (List Int)) (c x : List Int) (b : Int) (s : List (Int × Int)) : Bool :=
  if (s.length : Int) = 0 then decide (b ≤ 0) || closedI e x else rightI w e c x b s
/-- How many nodes prove a state, by the reference. -/
def partI (w : List Int) (e : List (List Int)) : Nat → List Int → List Int → Int → List Nd → Option Nat
  | 0, _, _, _, _ => none
  | _ + 1, _, _, _, [] => none
  | f + 1, c, x, b, n :: r =>
    if n.1 = -1 then (if leafR w e c x b n.2 = true then some 1 else none)
    else if (0 : Int) < n.2.length ∨ n.1 < 0 ∨ (w.length : Int) ≤ n.1 ∨ n.1 ∈ c ∨ n.1 ∈ x then none
    else match partI w e f (c ++ [n.1]) x (IntKind.i64.wrap (b - w.getD n.1.toNat 0)) r with
      | none => none
      | some k => match partI w e f c (x ++ [n.1]) b (r.drop k) with
        | none => none
        | some k' => some (k + 1 + k')
def optI : Option Nat → Int
  | some k => k
  | none => -1

theorem partI_le (w : List Int) (e : List (List Int)) : ∀ (f : Nat) (c x : List Int) (b : Int) (nd : List Nd) (k : Nat), partI w e f c x b nd = some k → 1 ≤ k ∧ k ≤ nd.length
  | 0, _, _, _, _, _, h => by cases h
  | _ + 1, _, _, _, [], _, h => by cases h
  | f + 1, c, x, b, n :: r, k, h => by
    simp only [partI] at h
    split at h
    · split at h
      · injection h with h; subst h; simp
      · cases h
    · split at h
      · cases h
      · split at h
        · cases h
        · rename_i k1 h1
          split at h
          · cases h
          · rename_i k2 h2
            injection h with h; subst h
            have a1 := partI_le w e f _ _ _ _ _ h1
            have a2 := partI_le w e f _ _ _ _ _ h2
            simp only [List.length_drop, List.length_cons] at *
            omega

theorem take_app1 (c : List Int) (y : List PV) : (c.map encI ++ [y]).take (c.length + 1) = c.map encI ++ [y] := List.take_of_length_le (by simp)
theorem take_lenM {α β : Type} (f : α → β) (r : List α) : (r.map f).take r.length = r.map f := List.take_of_length_le (by simp)
theorem drop_map {α β : Type} (f : α → β) (l : List α) (i : Nat) : (l.map f).drop i = (l.drop i).map f := List.map_drop.symm
theorem ble_len0 (n : Nat) : Nat.ble n n = true := ble_self n

theorem call433 (w : List Int) (e : List (List Int)) (hw : w.length ≤ 1048576) (he : e.length ≤ 1048576) (hm : ∀ l ∈ e, l.length ≤ 1048576) : ∀ (f : Nat) (c x : List Int) (b : Int) (nd : List Nd), nd.length ≤ f →
    c.length + nd.length ≤ 1048576 → x.length + nd.length ≤ 1048576 → (∀ n ∈ nd, n.2.length ≤ 1048576) → ∀ X : XHeap, call XT 433 [.p (PV.agg [.rd 1 (w.map encI), .rd 1 (e.map fun l => [PV.rd 1 (l.map encI)])]), .p (PV.agg [.rd 1 (c.map encI), .rd 1 (x.map encI), pI b]), .p (.rd 2 (nd.map fun n => [pI n.1, .rd 2 (n.2.map encSI)]))] X = some (vI (optI (partI w e f c x b nd)), X) := by
  intro f
  induction f with
  | zero =>
    intro c x b nd h1 h2 h3 h4 X
    have h0 : nd = [] := List.length_eq_zero_iff.1 (by omega)
    subst h0
    refine call_pure (F := f433) (args := [PV.agg [.rd 1 (w.map encI), .rd 1 (e.map fun l => [PV.rd 1 (l.map encI)])], PV.agg [.rd 1 (c.map encI), .rd 1 (x.map encI), pI b], .rd 2 []]) T433 rfl rfl ?_
    unfold f433 x433
    simp only [↓sxP, sxQ, xai, xgo, xop, xG, AOp.touched, oldX, nwX, newX, xo, xput, refX, xbin, xint, loadP, loadX, ofC, xcells, xagg, Nat.blt, Value.oneCell', refsO, okGc, renO, rI, coX, Option.isSome, outS, outT, resX, tupX, lend1, lend0, scalX, xsb, pvX, zeroX, spliceG, xapp, xappP, xrd, eqP1, xstr, zpv, Nat.beq, Nat.ble, ↓reduceIte, Nat.reduceAdd, Nat.reduceLeDiff, Nat.reduceBEq, Nat.reduceEqDiff, Nat.reduceLT, Nat.reduceSub, Nat.reduceMul, Int.reduceLT, Int.reduceLE, Int.reduceAdd, Int.reduceSub, Int.reduceNeg, Int.reduceToNat, Int.reduceEq, reduceCtorEq, norm_cons, norm_nil, normB, pOwn, pSel, gcS, reach, addN, getO, live, gcH, maxEl, Int.natCast_zero, partI, optI]
  | succ f ih =>
    intro c x b nd h1 h2 h3 h4 X
    cases nd with
    | nil =>
      refine call_pure (F := f433) (args := [PV.agg [.rd 1 (w.map encI), .rd 1 (e.map fun l => [PV.rd 1 (l.map encI)])], PV.agg [.rd 1 (c.map encI), .rd 1 (x.map encI), pI b], .rd 2 []]) T433 rfl rfl ?_
      unfold f433 x433
      simp only [↓sxP, sxQ, xai, xgo, xop, xG, AOp.touched, oldX, nwX, newX, xo, xput, refX, xbin, xint, loadP, loadX, ofC, xcells, xagg, Nat.blt, Value.oneCell', refsO, okGc, renO, rI, coX, Option.isSome, outS, outT, resX, tupX, lend1, lend0, scalX, xsb, pvX, zeroX, spliceG, xapp, xappP, xrd, eqP1, xstr, zpv, Nat.beq, Nat.ble, ↓reduceIte, Nat.reduceAdd, Nat.reduceLeDiff, Nat.reduceBEq, Nat.reduceEqDiff, Nat.reduceLT, Nat.reduceSub, Nat.reduceMul, Int.reduceLT, Int.reduceLE, Int.reduceAdd, Int.reduceSub, Int.reduceNeg, Int.reduceToNat, Int.reduceEq, reduceCtorEq, norm_cons, norm_nil, normB, pOwn, pSel, gcS, reach, addN, getO, live, gcH, maxEl, Int.natCast_zero, partI, optI]
    | cons n r =>
      obtain ⟨v, s⟩ := n
      simp only [List.length_cons] at h1 h2 h3
      have hs : s.length ≤ 1048576 := h4 (v, s) (List.mem_cons_self ..)
      refine call_pure (F := f433) (args := [PV.agg [.rd 1 (w.map encI), .rd 1 (e.map fun l => [PV.rd 1 (l.map encI)])], PV.agg [.rd 1 (c.map encI), .rd 1 (x.map encI), pI b], .rd 2 (((v, s) :: r).map fun n => [pI n.1, .rd 2 (n.2.map encSI)])]) T433 rfl rfl ?_
      unfold f433 x433
      have hz : ¬ (((r.length + 1 : Nat) : Int) = 0) := by omega
      by_cases c1 : v = -1
      · by_cases c2 : (s.length : Int) = 0
        · have c2'' : ¬ (0 : Int) < (s.length : Nat) := by omega
          by_cases c3 : b ≤ 0
          · have hr : optI (partI w e (f + 1) c x b ((-1, s) :: r)) = 1 := by simp only [partI, optI, leafR, reduceIte, or_true, true_or, false_or, or_false, or_self, Bool.false_eq_true, Bool.or_true, Bool.true_or, Bool.false_or, decide_true, decide_false, if_true, if_false, not_false_iff, Int.natCast_one, Int.reduceEq, c2, c3]
            simp only [↓sxP, sxQ, xai, xgo, xop, xG, AOp.touched, oldX, nwX, newX, xo, xput, refX, xbin, xint, loadP, loadX, ofC, xcells, xagg, Nat.blt, Value.oneCell', refsO, okGc, renO, rI, coX, Option.isSome, outS, outT, resX, tupX, lend1, lend0, scalX, xsb, pvX, zeroX, spliceG, xapp, xappP, xrd, eqP1, xstr, zpv, Nat.beq, Nat.ble, ↓reduceIte, Nat.reduceAdd, Nat.reduceLeDiff, Nat.reduceBEq, Nat.reduceEqDiff, Nat.reduceLT, Nat.reduceSub, Nat.reduceMul, Int.reduceLT, Int.reduceLE, Int.reduceAdd, Int.reduceSub, Int.reduceNeg, Int.reduceToNat, Int.reduceEq, reduceCtorEq, norm_cons, norm_nil, normB, pOwn, pSel, gcS, reach, addN, getO, live, gcH, maxEl, hz, c1, c2'', c2, c3, hr]
          · have hc := fun X => call447 w e c x b (by omega) he hm X
            by_cases c4 : closedI e x = true
            · have hr : optI (partI w e (f + 1) c x b ((-1, s) :: r)) = 1 := by simp only [partI, optI, leafR, reduceIte, or_true, true_or, false_or, or_false, or_self, Bool.false_eq_true, Bool.or_true, Bool.true_or, Bool.false_or, decide_true, decide_false, if_true, if_false, not_false_iff, Int.natCast_one, Int.reduceEq, c2, c4]
              simp only [↓sxP, sxQ, xai, xgo, xop, xG, AOp.touched, oldX, nwX, newX, xo, xput, refX, xbin, xint, loadP, loadX, ofC, xcells, xagg, Nat.blt, Value.oneCell', refsO, okGc, renO, rI, coX, Option.isSome, outS, outT, resX, tupX, lend1, lend0, scalX, xsb, pvX, zeroX, spliceG, xapp, xappP, xrd, eqP1, xstr, zpv, Nat.beq, Nat.ble, ↓reduceIte, Nat.reduceAdd, Nat.reduceLeDiff, Nat.reduceBEq, Nat.reduceEqDiff, Nat.reduceLT, Nat.reduceSub, Nat.reduceMul, Int.reduceLT, Int.reduceLE, Int.reduceAdd, Int.reduceSub, Int.reduceNeg, Int.reduceToNat, Int.reduceEq, reduceCtorEq, norm_cons, norm_nil, normB, pOwn, pSel, gcS, reach, addN, getO, live, gcH, maxEl, hz, c1, c2'', c2, c3, c4, P447, hc, hr]
            · have c4' : closedI e x = false := by simpa using c4
              have hr : optI (partI w e (f + 1) c x b ((-1, s) :: r)) = -1 := by simp only [partI, optI, leafR, reduceIte, or_true, true_or, false_or, or_false, or_self, Bool.false_eq_true, Bool.or_true, Bool.true_or, Bool.false_or, decide_true, decide_false, if_true, if_false, not_false_iff, Int.natCast_one, Int.reduceEq, c2, c3, c4']
              simp only [↓sxP, sxQ, xai, xgo, xop, xG, AOp.touched, oldX, nwX, newX, xo, xput, refX, xbin, xint, loadP, loadX, ofC, xcells, xagg, Nat.blt, Value.oneCell', refsO, okGc, renO, rI, coX, Option.isSome, outS, outT, resX, tupX, lend1, lend0, scalX, xsb, pvX, zeroX, spliceG, xapp, xappP, xrd, eqP1, xstr, zpv, Nat.beq, Nat.ble, ↓reduceIte, Nat.reduceAdd, Nat.reduceLeDiff, Nat.reduceBEq, Nat.reduceEqDiff, Nat.reduceLT, Nat.reduceSub, Nat.reduceMul, Int.reduceLT, Int.reduceLE, Int.reduceAdd, Int.reduceSub, Int.reduceNeg, Int.reduceToNat, Int.reduceEq, reduceCtorEq, norm_cons, norm_nil, normB, pOwn, pSel, gcS, reach, addN, getO, live, gcH, maxEl, hz, c1, c2'', c2, c3, c4', P447, hc, hr]
        · have c2'' : (0 : Int) < (s.length : Nat) := by omega
          have hc := fun X => call416 w e c x b s hs hm (by omega) hw (by omega) X
          by_cases c4 : rightI w e c x b s = true
          · have hr : optI (partI w e (f + 1) c x b ((-1, s) :: r)) = 1 := by simp only [partI, optI, leafR, reduceIte, or_true, true_or, false_or, or_false, or_self, Bool.false_eq_true, Bool.or_true, Bool.true_or, Bool.false_or, decide_true, decide_false, if_true, if_false, not_false_iff, Int.natCast_one, Int.reduceEq, c2, c4]
            simp only [↓sxP, sxQ, xai, xgo, xop, xG, AOp.touched, oldX, nwX, newX, xo, xput, refX, xbin, xint, loadP, loadX, ofC, xcells, xagg, Nat.blt, Value.oneCell', refsO, okGc, renO, rI, coX, Option.isSome, outS, outT, resX, tupX, lend1, lend0, scalX, xsb, pvX, zeroX, spliceG, xapp, xappP, xrd, eqP1, xstr, zpv, Nat.beq, Nat.ble, ↓reduceIte, Nat.reduceAdd, Nat.reduceLeDiff, Nat.reduceBEq, Nat.reduceEqDiff, Nat.reduceLT, Nat.reduceSub, Nat.reduceMul, Int.reduceLT, Int.reduceLE, Int.reduceAdd, Int.reduceSub, Int.reduceNeg, Int.reduceToNat, Int.reduceEq, reduceCtorEq, norm_cons, norm_nil, normB, pOwn, pSel, gcS, reach, addN, getO, live, gcH, maxEl, hz, c1, c2'', c2, c4, P416, hc, hr]
          · have c4' : rightI w e c x b s = false := by simpa using c4
            have hr : optI (partI w e (f + 1) c x b ((-1, s) :: r)) = -1 := by simp only [partI, optI, leafR, reduceIte, or_true, true_or, false_or, or_false, or_self, Bool.false_eq_true, Bool.or_true, Bool.true_or, Bool.false_or, decide_true, decide_false, if_true, if_false, not_false_iff, Int.natCast_one, Int.reduceEq, c2, c4']
            simp only [↓sxP, sxQ, xai, xgo, xop, xG, AOp.touched, oldX, nwX, newX, xo, xput, refX, xbin, xint, loadP, loadX, ofC, xcells, xagg, Nat.blt, Value.oneCell', refsO, okGc, renO, rI, coX, Option.isSome, outS, outT, resX, tupX, lend1, lend0, scalX, xsb, pvX, zeroX, spliceG, xapp, xappP, xrd, eqP1, xstr, zpv, Nat.beq, Nat.ble, ↓reduceIte, Nat.reduceAdd, Nat.reduceLeDiff, Nat.reduceBEq, Nat.reduceEqDiff, Nat.reduceLT, Nat.reduceSub, Nat.reduceMul, Int.reduceLT, Int.reduceLE, Int.reduceAdd, Int.reduceSub, Int.reduceNeg, Int.reduceToNat, Int.reduceEq, reduceCtorEq, norm_cons, norm_nil, normB, pOwn, pSel, gcS, reach, addN, getO, live, gcH, maxEl, hz, c1, c2'', c2, c4', P416, hc, hr]
      · by_cases c2 : (0 : Int) < s.length
        · have hr : optI (partI w e (f + 1) c x b ((v, s) :: r)) = -1 := by simp only [partI, optI, leafR, reduceIte, or_true, true_or, false_or, or_false, or_self, Bool.false_eq_true, Bool.or_true, Bool.true_or, Bool.false_or, decide_true, decide_false, if_true, if_false, not_false_iff, Int.natCast_one, Int.reduceEq, c1, c2]
          simp only [↓sxP, sxQ, xai, xgo, xop, xG, AOp.touched, oldX, nwX, newX, xo, xput, refX, xbin, xint, loadP, loadX, ofC, xcells, xagg, Nat.blt, Value.oneCell', refsO, okGc, renO, rI, coX, Option.isSome, outS, outT, resX, tupX, lend1, lend0, scalX, xsb, pvX, zeroX, spliceG, xapp, xappP, xrd, eqP1, xstr, zpv, Nat.beq, Nat.ble, ↓reduceIte, Nat.reduceAdd, Nat.reduceLeDiff, Nat.reduceBEq, Nat.reduceEqDiff, Nat.reduceLT, Nat.reduceSub, Nat.reduceMul, Int.reduceLT, Int.reduceLE, Int.reduceAdd, Int.reduceSub, Int.reduceNeg, Int.reduceToNat, Int.reduceEq, reduceCtorEq, norm_cons, norm_nil, normB, pOwn, pSel, gcS, reach, addN, getO, live, gcH, maxEl, hz, c1, c2, hr]
        · by_cases c3 : v < 0
          · have hr : optI (partI w e (f + 1) c x b ((v, s) :: r)) = -1 := by simp only [partI, optI, leafR, reduceIte, or_true, true_or, false_or, or_false, or_self, Bool.false_eq_true, Bool.or_true, Bool.true_or, Bool.false_or, decide_true, decide_false, if_true, if_false, not_false_iff, Int.natCast_one, Int.reduceEq, c1, c3]
            simp only [↓sxP, sxQ, xai, xgo, xop, xG, AOp.touched, oldX, nwX, newX, xo, xput, refX, xbin, xint, loadP, loadX, ofC, xcells, xagg, Nat.blt, Value.oneCell', refsO, okGc, renO, rI, coX, Option.isSome, outS, outT, resX, tupX, lend1, lend0, scalX, xsb, pvX, zeroX, spliceG, xapp, xappP, xrd, eqP1, xstr, zpv, Nat.beq, Nat.ble, ↓reduceIte, Nat.reduceAdd, Nat.reduceLeDiff, Nat.reduceBEq, Nat.reduceEqDiff, Nat.reduceLT, Nat.reduceSub, Nat.reduceMul, Int.reduceLT, Int.reduceLE, Int.reduceAdd, Int.reduceSub, Int.reduceNeg, Int.reduceToNat, Int.reduceEq, reduceCtorEq, norm_cons, norm_nil, normB, pOwn, pSel, gcS, reach, addN, getO, live, gcH, maxEl, hz, c1, c2, c3, hr]
          · by_cases c4 : (w.length : Int) ≤ v
            · have hr : optI (partI w e (f + 1) c x b ((v, s) :: r)) = -1 := by simp only [partI, optI, leafR, reduceIte, or_true, true_or, false_or, or_false, or_self, Bool.false_eq_true, Bool.or_true, Bool.true_or, Bool.false_or, decide_true, decide_false, if_true, if_false, not_false_iff, Int.natCast_one, Int.reduceEq, c1, c4]
              simp only [↓sxP, sxQ, xai, xgo, xop, xG, AOp.touched, oldX, nwX, newX, xo, xput, refX, xbin, xint, loadP, loadX, ofC, xcells, xagg, Nat.blt, Value.oneCell', refsO, okGc, renO, rI, coX, Option.isSome, outS, outT, resX, tupX, lend1, lend0, scalX, xsb, pvX, zeroX, spliceG, xapp, xappP, xrd, eqP1, xstr, zpv, Nat.beq, Nat.ble, ↓reduceIte, Nat.reduceAdd, Nat.reduceLeDiff, Nat.reduceBEq, Nat.reduceEqDiff, Nat.reduceLT, Nat.reduceSub, Nat.reduceMul, Int.reduceLT, Int.reduceLE, Int.reduceAdd, Int.reduceSub, Int.reduceNeg, Int.reduceToNat, Int.reduceEq, reduceCtorEq, norm_cons, norm_nil, normB, pOwn, pSel, gcS, reach, addN, getO, live, gcH, maxEl, hz, c1, c2, c3, c4, hr]
            · have q1 := fun X => call428 v c (by omega) X
              have q2 := fun X => call428 v x (by omega) X
              by_cases c5 : v ∈ c
              · have hr : optI (partI w e (f + 1) c x b ((v, s) :: r)) = -1 := by simp only [partI, optI, leafR, reduceIte, or_true, true_or, false_or, or_false, or_self, Bool.false_eq_true, Bool.or_true, Bool.true_or, Bool.false_or, decide_true, decide_false, if_true, if_false, not_false_iff, Int.natCast_one, Int.reduceEq, c1, c5]
                simp only [↓sxP, sxQ, xai, xgo, xop, xG, AOp.touched, oldX, nwX, newX, xo, xput, refX, xbin, xint, loadP, loadX, ofC, xcells, xagg, Nat.blt, Value.oneCell', refsO, okGc, renO, rI, coX, Option.isSome, outS, outT, resX, tupX, lend1, lend0, scalX, xsb, pvX, zeroX, spliceG, xapp, xappP, xrd, eqP1, xstr, zpv, Nat.beq, Nat.ble, ↓reduceIte, Nat.reduceAdd, Nat.reduceLeDiff, Nat.reduceBEq, Nat.reduceEqDiff, Nat.reduceLT, Nat.reduceSub, Nat.reduceMul, Int.reduceLT, Int.reduceLE, Int.reduceAdd, Int.reduceSub, Int.reduceNeg, Int.reduceToNat, Int.reduceEq, reduceCtorEq, norm_cons, norm_nil, normB, pOwn, pSel, gcS, reach, addN, getO, live, gcH, maxEl, hz, c1, c2, c3, c4, c5, P428, q1, hr]
              · by_cases c6 : v ∈ x
                · have hr : optI (partI w e (f + 1) c x b ((v, s) :: r)) = -1 := by simp only [partI, optI, leafR, reduceIte, or_true, true_or, false_or, or_false, or_self, Bool.false_eq_true, Bool.or_true, Bool.true_or, Bool.false_or, decide_true, decide_false, if_true, if_false, not_false_iff, Int.natCast_one, Int.reduceEq, c1, c6]
                  simp only [↓sxP, sxQ, xai, xgo, xop, xG, AOp.touched, oldX, nwX, newX, xo, xput, refX, xbin, xint, loadP, loadX, ofC, xcells, xagg, Nat.blt, Value.oneCell', refsO, okGc, renO, rI, coX, Option.isSome, outS, outT, resX, tupX, lend1, lend0, scalX, xsb, pvX, zeroX, spliceG, xapp, xappP, xrd, eqP1, xstr, zpv, Nat.beq, Nat.ble, ↓reduceIte, Nat.reduceAdd, Nat.reduceLeDiff, Nat.reduceBEq, Nat.reduceEqDiff, Nat.reduceLT, Nat.reduceSub, Nat.reduceMul, Int.reduceLT, Int.reduceLE, Int.reduceAdd, Int.reduceSub, Int.reduceNeg, Int.reduceToNat, Int.reduceEq, reduceCtorEq, norm_cons, norm_nil, normB, pOwn, pSel, gcS, reach, addN, getO, live, gcH, maxEl, hz, c1, c2, c3, c4, c5, c6, P428, q1, q2, hr]
                · have h5 : 0 ≤ v := by omega
                  have h6 : w[v.toNat]? = some (w.getD v.toNat 0) := getD_some (by omega)
                  have m1 : c.length ≤ 1073741824 := by omega
                  have m2 : c.length + 1 ≤ 1073741824 := by omega
                  have m3 : x.length ≤ 1073741824 := by omega
                  have m4 : x.length + 1 ≤ 1073741824 := by omega
                  have i1 := ih (c ++ [v]) x (IntKind.i64.wrap (b - w.getD v.toNat 0)) r (by omega) (by simp; omega) (by omega) (fun n hn => h4 n (List.mem_cons_of_mem _ hn))
                  simp only [List.map_append, List.map_cons, List.map_nil, encI] at i1
                  cases h7 : partI w e f (c ++ [v]) x (IntKind.i64.wrap (b - w.getD v.toNat 0)) r with
                  | none =>
                    rw [h7] at i1
                    simp only [optI] at i1
                    have hr : optI (partI w e (f + 1) c x b ((v, s) :: r)) = -1 := by simp only [partI, optI, leafR, reduceIte, or_true, true_or, false_or, or_false, or_self, Bool.false_eq_true, Bool.or_true, Bool.true_or, Bool.false_or, decide_true, decide_false, if_true, if_false, not_false_iff, Int.natCast_one, Int.reduceEq, c1, c2, c3, c4, c5, c6, h7]
                    simp only [↓sxP, sxQ, xai, xgo, xop, xG, AOp.touched, oldX, nwX, newX, xo, xput, refX, xbin, xint, loadP, loadX, ofC, xcells, xagg, Nat.blt, Value.oneCell', refsO, okGc, renO, rI, coX, Option.isSome, outS, outT, resX, tupX, lend1, lend0, scalX, xsb, pvX, zeroX, spliceG, xapp, xappP, xrd, eqP1, xstr, zpv, Nat.beq, Nat.ble, ↓reduceIte, Nat.reduceAdd, Nat.reduceLeDiff, Nat.reduceBEq, Nat.reduceEqDiff, Nat.reduceLT, Nat.reduceSub, Nat.reduceMul, Int.reduceLT, Int.reduceLE, Int.reduceAdd, Int.reduceSub, Int.reduceNeg, Int.reduceToNat, Int.reduceEq, reduceCtorEq, norm_cons, norm_nil, normB, pOwn, pSel, gcS, reach, addN, getO, live, gcH, maxEl, hz, c1, c2, c3, c4, c5, c6, P428, q1, q2, h5, h6, encI, ↓xapp_encI, xappP, xappQ, m1, m2, m3, m4, P433, i1, h7, List.length_append, List.mem_singleton, forall_eq, List.replicate, List.set, take_app1, take_lenM, ble_self, hr]
                  | some k =>
                    rw [h7] at i1
                    have hk := partI_le w e f _ _ _ _ _ h7
                    have i2 := ih c (x ++ [v]) b (r.drop k) (by simp; omega) (by simp; omega) (by simp; omega) (fun n hn => h4 n (List.mem_cons_of_mem _ (List.mem_of_mem_drop hn)))
                    simp only [List.map_append, List.map_cons, List.map_nil, encI] at i2
                    simp only [optI] at i1
                    have hk0 : ¬ (k : Int) < 0 := by omega
                    have hk1 : k ≤ r.length := hk.2
                    have hw1 : IntKind.i64.wrap (1 + (k : Int)) = ((k + 1 : Nat) : Int) := by rw [wrap64 _ (by omega) (by omega)]; omega
                    cases h8 : partI w e f c (x ++ [v]) b (r.drop k) with
                    | none =>
                      rw [h8] at i2
                      simp only [optI] at i2
                      have hr : optI (partI w e (f + 1) c x b ((v, s) :: r)) = -1 := by simp only [partI, optI, leafR, reduceIte, or_true, true_or, false_or, or_false, or_self, Bool.false_eq_true, Bool.or_true, Bool.true_or, Bool.false_or, decide_true, decide_false, if_true, if_false, not_false_iff, Int.natCast_one, Int.reduceEq, c1, c2, c3, c4, c5, c6, h7, h8]
                      simp only [↓sxP, sxQ, xai, xgo, xop, xG, AOp.touched, oldX, nwX, newX, xo, xput, refX, xbin, xint, loadP, loadX, ofC, xcells, xagg, Nat.blt, Value.oneCell', refsO, okGc, renO, rI, coX, Option.isSome, outS, outT, resX, tupX, lend1, lend0, scalX, xsb, pvX, zeroX, spliceG, xapp, xappP, xrd, eqP1, xstr, zpv, Nat.beq, Nat.ble, ↓reduceIte, Nat.reduceAdd, Nat.reduceLeDiff, Nat.reduceBEq, Nat.reduceEqDiff, Nat.reduceLT, Nat.reduceSub, Nat.reduceMul, Int.reduceLT, Int.reduceLE, Int.reduceAdd, Int.reduceSub, Int.reduceNeg, Int.reduceToNat, Int.reduceEq, reduceCtorEq, norm_cons, norm_nil, normB, pOwn, pSel, gcS, reach, addN, getO, live, gcH, maxEl, hz, c1, c2, c3, c4, c5, c6, P428, q1, q2, h5, h6, encI, ↓xapp_encI, xappP, xappQ, m1, m2, m3, m4, P433, i1, i2, h7, h8, hk0, hk1, hw1, List.length_append, List.mem_singleton, forall_eq, List.replicate, List.set, take_app1, take_lenM, drop_map, ble_self, Nat.add_le_add_iff_right, hr]
                    | some k2 =>
                      rw [h8] at i2
                      have hj := partI_le w e f _ _ _ _ _ h8
                      simp only [List.length_drop] at hj
                      simp only [optI] at i2
                      have hk2 : ¬ (k2 : Int) < 0 := by omega
                      have hw2 : IntKind.i64.wrap (((k + 1 : Nat) : Int) + (k2 : Int)) = ((k + 1 + k2 : Nat) : Int) := by rw [wrap64 _ (by omega) (by omega)]; omega
                      have hr : optI (partI w e (f + 1) c x b ((v, s) :: r)) = (k + 1 + k2 : Nat) := by simp only [partI, optI, leafR, reduceIte, or_true, true_or, false_or, or_false, or_self, Bool.false_eq_true, Bool.or_true, Bool.true_or, Bool.false_or, decide_true, decide_false, if_true, if_false, not_false_iff, Int.natCast_one, Int.reduceEq, c1, c2, c3, c4, c5, c6, h7, h8]
                      simp only [↓sxP, sxQ, xai, xgo, xop, xG, AOp.touched, oldX, nwX, newX, xo, xput, refX, xbin, xint, loadP, loadX, ofC, xcells, xagg, Nat.blt, Value.oneCell', refsO, okGc, renO, rI, coX, Option.isSome, outS, outT, resX, tupX, lend1, lend0, scalX, xsb, pvX, zeroX, spliceG, xapp, xappP, xrd, eqP1, xstr, zpv, Nat.beq, Nat.ble, ↓reduceIte, Nat.reduceAdd, Nat.reduceLeDiff, Nat.reduceBEq, Nat.reduceEqDiff, Nat.reduceLT, Nat.reduceSub, Nat.reduceMul, Int.reduceLT, Int.reduceLE, Int.reduceAdd, Int.reduceSub, Int.reduceNeg, Int.reduceToNat, Int.reduceEq, reduceCtorEq, norm_cons, norm_nil, normB, pOwn, pSel, gcS, reach, addN, getO, live, gcH, maxEl, hz, c1, c2, c3, c4, c5, c6, P428, q1, q2, h5, h6, encI, ↓xapp_encI, xappP, xappQ, m1, m2, m3, m4, P433, i1, i2, h7, h8, hk0, hk1, hk2, hw1, hw2, List.length_append, List.mem_singleton, forall_eq, List.replicate, List.set, take_app1, take_lenM, drop_map, ble_self, Nat.add_le_add_iff_right, hr]
end Go.Abs
