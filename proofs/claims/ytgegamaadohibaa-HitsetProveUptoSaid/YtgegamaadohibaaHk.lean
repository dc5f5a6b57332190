/- The search of chapter 39: has. No condition. -/
import Derived.Test.YtgegamaadohibaaHg
import Derived.Test.YtgegamaadohibaaX
namespace Go.Abs
open Go
set_option linter.unusedSimpArgs false
set_option maxHeartbeats 1000000
set_option maxRecDepth 8000

theorem closed_app {X N : XHeap} (hX : closedX X = true) (hN : ∀ o ∈ N, (refsO o).all (live (X ++ N)) = true) : closedX (X ++ N) = true := by
  unfold closedX
  rw [List.all_append, Bool.and_eq_true]
  refine ⟨List.all_eq_true.2 fun o ho => List.all_eq_true.2 fun a ha => ?_, List.all_eq_true.2 hN⟩
  exact live_app (List.all_eq_true.1 (List.all_eq_true.1 hX o ho) a ha)
theorem live_get {X : XHeap} {a : Nat} {o : XObj} (h : X[a]? = some (some o)) : live X a = true := by simp [live, getO, h]

theorem call455 {Y : XHeap} {a m p q : Nat} {w : List Int} {e : List (List Int)} {mk : List Int} {left k v : Int} (hY : closedX Y = true) (h1 : Y[p]? = some (some (.mx 1 [[.ptr a 0 0]]))) (h2 : Y[q]? = some (some (.mx 1 [[vI k]])))
    (h3 : Y[a]? = some (some (.mx 4 [[.p (.rd 1 (w.map encI)), .p (.rd 1 (e.map fun l => [PV.rd 1 (l.map encI)])), .ref m 0 mk.length, vI left]]))) (h4 : Y[m]? = some (some (.pu 1 (mk.map encI)))) (hv : 0 ≤ v) (hv2 : v.toNat < mk.length) :
    call XT 455 [vI v, .ptr p 0 0, .ptr q 0 0] Y = some (vB (decide (mk.getD v.toNat 0 = k)), Y) := by
  refine call_impure (F := f455) T455 rfl rfl ?_
  unfold f455 x455
  have hn := norm_rules hY
  have h5 : mk[v.toNat]? = some (mk.getD v.toNat 0) := getD_some hv2
  have h6 : v < (mk.length : Int) := by omega
  simp only [↓sxP, sxQ, xai, xgo, xop, xG, AOp.touched, oldX, nwX, newX, xo, xput, refX, xbin, xint, loadP, loadX, ofC, xcells, xagg, Nat.blt, Value.oneCell', refsO, okGc, renO, rI, coX, Option.isSome, outS, outT, resX, tupX, lend1, lend0, scalX, xsb, pvX, zeroX, spliceG, xapp, xappP, xrd, eqP1, xstr, zpv, Nat.beq, Nat.ble, ↓reduceIte, Nat.reduceAdd, Nat.reduceLeDiff, Nat.reduceBEq, Nat.reduceEqDiff, Nat.reduceLT, Nat.reduceSub, Nat.reduceMul, Int.reduceLT, Int.reduceLE, Int.reduceAdd, Int.reduceSub, Int.reduceNeg, Int.reduceToNat, Int.reduceEq, reduceCtorEq, normC, selK, gcH, List.all_append, ble_self, h1, h2, h3, h4, h5, h6, hv, hv2, encI, hn]

/-- Has an edge a vertex with a mark? -/
def hasM (mk : List Int) (l : List Int) (k : Int) : Bool := l.any fun v => decide (mk.getD v.toNat 0 = k)
theorem call450 {X : XHeap} {a m : Nat} {w : List Int} {e : List (List Int)} {mk : List Int} {left k : Int} {l : List Int} (hX : closedX X = true)
    (h3 : X[a]? = some (some (.mx 4 [[.p (.rd 1 (w.map encI)), .p (.rd 1 (e.map fun l => [PV.rd 1 (l.map encI)])), .ref m 0 mk.length, vI left]]))) (h4 : X[m]? = some (some (.pu 1 (mk.map encI)))) (hl : l.length ≤ 1048576) (hv : ∀ v ∈ l, 0 ≤ v ∧ v.toNat < mk.length) :
    call XT 450 [.ptr a 0 0, .p (.rd 1 (l.map encI)), vI k] X = some (vB (hasM mk l k), X) := by
  refine call_impure (F := f450) T450 rfl rfl ?_
  unfold f450 x450
  have hY : closedX (X ++ [some (.mx 1 [[.ptr a 0 0]]), some (.mx 1 [[vI k]])]) = true := closed_app hX fun o ho => by
    simp only [List.mem_cons, List.not_mem_nil, or_false] at ho
    rcases ho with rfl | rfl
    · simp only [refsO, refsLL, refsL, refsV, List.append_nil, List.all_cons, List.all_nil, Bool.and_true]
      exact live_app (live_get h3)
    · rfl
  have hl0 : live (X ++ [some (.mx 1 [[.ptr a 0 0]]), some (.mx 1 [[vI k]])]) X.length = true := live_get (get_app0 _ _ _)
  have hl1 : live (X ++ [some (.mx 1 [[.ptr a 0 0]]), some (.mx 1 [[vI k]])]) (X.length + 1) = true := live_get (get_app1 _ _ _ _)
  have hc := call426 l hl 455 [.ptr X.length 0 0, .ptr (X.length + 1) 0 0] (X ++ [some (.mx 1 [[.ptr a 0 0]]), some (.mx 1 [[vI k]])]) hY (by simp only [refsL, refsV, List.append_nil, List.cons_append, List.nil_append, List.all_cons, List.all_nil, hl0, hl1, Bool.and_self]) (fun v => decide (mk.getD v.toNat 0 = k)) (fun v hv' => by
    show xcall _ _ _ _ _ _ = _
    rw [xcall_imp P455]; exact call455 hY (get_app0 _ _ _) (get_app1 _ _ _ _) (get_appL h3 _) (get_appL h4 _) (hv v hv').1 (hv v hv').2)
  have hn := fun env => norm_drop_rule hX [(6, .k)] env
  have hlen : ∀ o : Option XObj, (X ++ [o]).length = X.length + 1 := fun o => by simp
  simp only [↓sxP, sxQ, xai, xgo, xop, xG, AOp.touched, oldX, nwX, newX, xo, xput, refX, xbin, xint, loadP, loadX, ofC, xcells, xagg, Nat.blt, Value.oneCell', refsO, okGc, renO, rI, coX, Option.isSome, outS, outT, resX, tupX, lend1, lend0, scalX, xsb, pvX, zeroX, spliceG, xapp, xappP, xrd, eqP1, xstr, zpv, Nat.beq, Nat.ble, ↓reduceIte, Nat.reduceAdd, Nat.reduceLeDiff, Nat.reduceBEq, Nat.reduceEqDiff, Nat.reduceLT, Nat.reduceSub, Nat.reduceMul, Int.reduceLT, Int.reduceLE, Int.reduceAdd, Int.reduceSub, Int.reduceNeg, Int.reduceToNat, Int.reduceEq, reduceCtorEq, normC, selK, gcH, List.all_append, ble_self, maxEl, P426, hc, hlen, List.append_assoc, List.cons_append, h3]
  rw [norm_drop_rule hX _ _ _ _ (fun e he => by simp only [selK, xlook, Nat.beq, cond_true, cond_false, Option.some.injEq] at he; subst he; rfl) rfl]
  simp only [↓sxP, sxQ, xai, xgo, xop, xG, AOp.touched, oldX, nwX, newX, xo, xput, refX, xbin, xint, loadP, loadX, ofC, xcells, xagg, Nat.blt, Value.oneCell', refsO, okGc, renO, rI, coX, Option.isSome, outS, outT, resX, tupX, lend1, lend0, scalX, xsb, pvX, zeroX, spliceG, xapp, xappP, xrd, eqP1, xstr, zpv, Nat.beq, Nat.ble, ↓reduceIte, Nat.reduceAdd, Nat.reduceLeDiff, Nat.reduceBEq, Nat.reduceEqDiff, Nat.reduceLT, Nat.reduceSub, Nat.reduceMul, Int.reduceLT, Int.reduceLE, Int.reduceAdd, Int.reduceSub, Int.reduceNeg, Int.reduceToNat, Int.reduceEq, reduceCtorEq, normC, selK, gcH, List.all_append, ble_self, hasM]
end Go.Abs

namespace Go.Abs
open Go
set_option linter.unusedSimpArgs false
set_option maxHeartbeats 2000000
set_option maxRecDepth 8000
theorem ble_s1 (n : Nat) : Nat.ble (n + 1) n = false := blt_self n
theorem ble_s2 (n k : Nat) : Nat.ble (n + k + 1) n = false := blt_add n k
def encS (s : Nat × Int) : List PV := [pI s.1, pI s.2]

/-- How much an edge can have. -/
def amt (mk room : List Int) : List Int → Int → Int
  | [], acc => acc
  | v :: r, acc => amt mk room r (if mk.getD v.toNat 0 = 0 then min acc (room.getD v.toNat 0) else acc)

theorem l438_1 {X : XHeap} {a m : Nat} {w : List Int} {e : List (List Int)} {mk : List Int} {left : Int} (hX : closedX X = true)
    (h3 : X[a]? = some (some (.mx 4 [[.p (.rd 1 (w.map encI)), .p (.rd 1 (e.map fun l => [PV.rd 1 (l.map encI)])), .ref m 0 mk.length, vI left]]))) (h4 : X[m]? = some (some (.pu 1 (mk.map encI)))) (room : List Int) (out : List (Nat × Int)) (sum : Int) (k idx : Nat) (l : List Int)
    (hr : room.length = mk.length) (hl : l.length ≤ 1048576) (hv : ∀ v ∈ l, 0 ≤ v ∧ v.toNat < mk.length) : ∀ n i : Nat, ∀ acc : Int, i + n = l.length →
    lp XT x438a1 x438b1 ⟨[(0, .ptr a 0 0), (4, .ref X.length 0 room.length), (5, .ref (X.length + 1) 0 out.length), (6, vI sum), (7, vI k), (8, .p (.rd 1 (l.map encI))), (9, vI acc), (24, .p (.rd 1 (e.map fun l => [PV.rd 1 (l.map encI)]))), (25, vI e.length), (26, vI idx), (34, .p (.rd 1 (l.map encI))), (35, vI l.length), (36, vI i)], X ++ [some (.pu 1 (room.map encI)), some (.pu 2 (out.map encS))], X.length⟩ =
      some (.exit 2, ⟨[(0, .ptr a 0 0), (4, .ref X.length 0 room.length), (5, .ref (X.length + 1) 0 out.length), (6, vI sum), (7, vI k), (8, .p (.rd 1 (l.map encI))), (9, vI (amt mk room (l.drop i) acc)), (24, .p (.rd 1 (e.map fun l => [PV.rd 1 (l.map encI)]))), (25, vI e.length), (26, vI idx)], X ++ [some (.pu 1 (room.map encI)), some (.pu 2 (out.map encS))], X.length⟩) := by
  intro n
  have hg := gc_rules hX
  have ho := old_rules (live_get h3)
  have ho2 : Nat.ble (a + 1) X.length = true := ho.2.1
  have h3' := fun N => get_appL h3 N
  have h4' := fun N => get_appL h4 N
  induction n with
  | zero =>
    intro i acc h
    have h1 : ¬ (i : Int) < l.length := by omega
    have h2 : l.drop i = [] := List.drop_of_length_le (by omega)
    rw [lp_nx]; conv => lhs; arg 1; unfold x438b1
    simp only [↓sxP, sxQ, xai, xgo, xop, xG, AOp.touched, oldX, nwX, newX, xo, xput, refX, xbin, xint, loadP, loadX, ofC, xcells, xagg, Nat.blt, Value.oneCell', refsO, okGc, renO, rI, coX, Option.isSome, outS, outT, resX, tupX, lend1, lend0, scalX, xsb, pvX, zeroX, spliceG, xapp, xappP, xrd, eqP1, xstr, zpv, Nat.beq, Nat.ble, ↓reduceIte, Nat.reduceAdd, Nat.reduceLeDiff, Nat.reduceBEq, Nat.reduceEqDiff, Nat.reduceLT, Nat.reduceSub, Nat.reduceMul, Int.reduceLT, Int.reduceLE, Int.reduceAdd, Int.reduceSub, Int.reduceNeg, Int.reduceToNat, Int.reduceEq, reduceCtorEq, norm_cons, norm_nil, normB, pOwn, pSel, reach, addN, getO, live, ble_self, ble_add, blt_self, blt_add, beq_self, beq_add, beq_addr, beq_addl, get_appk, get_appz, set_appk, set_appz, len_app, List.append_assoc, List.cons_append, ble_s1, ble_s2, h1, h2, hg, ho, ho2, h3', h4', amt]
  | succ n ih =>
    intro i acc h
    have hi : i < l.length := by omega
    have h1 : (i : Int) < l.length := by omega
    have hvi := hv l[i] (List.getElem_mem hi)
    have h5 : mk[l[i].toNat]? = some (mk.getD l[i].toNat 0) := getD_some hvi.2
    have h6 : l[i] < (mk.length : Int) := by omega
    have h7 : room[l[i].toNat]? = some (room.getD l[i].toNat 0) := getD_some (by omega)
    have h8 : l[i] < (room.length : Int) := by omega
    rw [lp_nx]; conv => lhs; arg 1; unfold x438b1
    by_cases h9 : mk.getD l[i].toNat 0 = 0
    · simp only [↓sxP, sxQ, xai, xgo, xop, xG, AOp.touched, oldX, nwX, newX, xo, xput, refX, xbin, xint, loadP, loadX, ofC, xcells, xagg, Nat.blt, Value.oneCell', refsO, okGc, renO, rI, coX, Option.isSome, outS, outT, resX, tupX, lend1, lend0, scalX, xsb, pvX, zeroX, spliceG, xapp, xappP, xrd, eqP1, xstr, zpv, Nat.beq, Nat.ble, ↓reduceIte, Nat.reduceAdd, Nat.reduceLeDiff, Nat.reduceBEq, Nat.reduceEqDiff, Nat.reduceLT, Nat.reduceSub, Nat.reduceMul, Int.reduceLT, Int.reduceLE, Int.reduceAdd, Int.reduceSub, Int.reduceNeg, Int.reduceToNat, Int.reduceEq, reduceCtorEq, norm_cons, norm_nil, normB, pOwn, pSel, reach, addN, getO, live, ble_self, ble_add, blt_self, blt_add, beq_self, beq_add, beq_addr, beq_addl, get_appk, get_appz, set_appk, set_appz, len_app, List.append_assoc, List.cons_append, ble_s1, ble_s2, h1, get_some hi, hg, ho, ho2, h3', h4', h5, h6, h7, h8, h9, hvi, encI, x438a1n, wrap_succ (i := i) (by omega), ih (i + 1) _ (by omega), drop_cons hi, amt, pvX, mmX]
    · simp only [↓sxP, sxQ, xai, xgo, xop, xG, AOp.touched, oldX, nwX, newX, xo, xput, refX, xbin, xint, loadP, loadX, ofC, xcells, xagg, Nat.blt, Value.oneCell', refsO, okGc, renO, rI, coX, Option.isSome, outS, outT, resX, tupX, lend1, lend0, scalX, xsb, pvX, zeroX, spliceG, xapp, xappP, xrd, eqP1, xstr, zpv, Nat.beq, Nat.ble, ↓reduceIte, Nat.reduceAdd, Nat.reduceLeDiff, Nat.reduceBEq, Nat.reduceEqDiff, Nat.reduceLT, Nat.reduceSub, Nat.reduceMul, Int.reduceLT, Int.reduceLE, Int.reduceAdd, Int.reduceSub, Int.reduceNeg, Int.reduceToNat, Int.reduceEq, reduceCtorEq, norm_cons, norm_nil, normB, pOwn, pSel, reach, addN, getO, live, ble_self, ble_add, blt_self, blt_add, beq_self, beq_add, beq_addr, beq_addl, get_appk, get_appz, set_appk, set_appz, len_app, List.append_assoc, List.cons_append, ble_s1, ble_s2, h1, get_some hi, hg, ho, ho2, h3', h4', h5, h6, h7, h8, h9, hvi, encI, x438a1n, wrap_succ (i := i) (by omega), ih (i + 1) _ (by omega), drop_cons hi, amt]

/-- What is left when an edge has its share. -/
def subR (am : Int) : List Int → List Int → List Int
  | [], room => room
  | v :: r, room => subR am r (room.set v.toNat (IntKind.i64.wrap (room.getD v.toNat 0 - am)))
theorem map_setI (room : List Int) (j : Nat) (x : Int) : (room.map encI).set j [PV.v (.int .i64 x)] = (room.set j x).map encI := by rw [List.map_set]; rfl

theorem l438_2 {X : XHeap} {a m : Nat} {w : List Int} {e : List (List Int)} {mk : List Int} {left : Int} (hX : closedX X = true)
    (h3 : X[a]? = some (some (.mx 4 [[.p (.rd 1 (w.map encI)), .p (.rd 1 (e.map fun l => [PV.rd 1 (l.map encI)])), .ref m 0 mk.length, vI left]]))) (out : List (Nat × Int)) (sum am : Int) (k idx : Nat) (l : List Int)
    (hl : l.length ≤ 1048576) (hv : ∀ v ∈ l, 0 ≤ v ∧ v.toNat < mk.length) : ∀ n i : Nat, ∀ room : List Int, room.length = mk.length → i + n = l.length →
    lp XT x438a2 x438b2 ⟨[(0, .ptr a 0 0), (4, .ref X.length 0 mk.length), (5, .ref (X.length + 1) 0 out.length), (6, vI sum), (7, vI k), (9, vI am), (24, .p (.rd 1 (e.map fun l => [PV.rd 1 (l.map encI)]))), (25, vI e.length), (26, vI idx), (57, .p (.rd 1 (l.map encI))), (58, vI l.length), (59, vI i)], X ++ [some (.pu 1 (room.map encI)), some (.pu 2 (out.map encS))], X.length⟩ =
      some (.exit 4, ⟨[(0, .ptr a 0 0), (4, .ref X.length 0 mk.length), (5, .ref (X.length + 1) 0 out.length), (6, vI sum), (7, vI k), (9, vI am), (24, .p (.rd 1 (e.map fun l => [PV.rd 1 (l.map encI)]))), (25, vI e.length), (26, vI idx)], X ++ [some (.pu 1 ((subR am (l.drop i) room).map encI)), some (.pu 2 (out.map encS))], X.length⟩) := by
  intro n
  have hg := gc_rules hX
  have ho := old_rules (live_get h3)
  have ho2 : Nat.ble (a + 1) X.length = true := ho.2.1
  have h3' := fun N => get_appL h3 N
  induction n with
  | zero =>
    intro i room hr h
    have h1 : ¬ (i : Int) < l.length := by omega
    have h2 : l.drop i = [] := List.drop_of_length_le (by omega)
    rw [lp_nx]; conv => lhs; arg 1; unfold x438b2
    simp only [↓sxP, sxQ, xai, xgo, xop, xG, AOp.touched, oldX, nwX, newX, xo, xput, refX, xbin, xint, loadP, loadX, ofC, xcells, xagg, Nat.blt, Value.oneCell', refsO, okGc, renO, rI, coX, Option.isSome, outS, outT, resX, tupX, lend1, lend0, scalX, xsb, pvX, zeroX, spliceG, xapp, xappP, xrd, eqP1, xstr, zpv, Nat.beq, Nat.ble, ↓reduceIte, Nat.reduceAdd, Nat.reduceLeDiff, Nat.reduceBEq, Nat.reduceEqDiff, Nat.reduceLT, Nat.reduceSub, Nat.reduceMul, Int.reduceLT, Int.reduceLE, Int.reduceAdd, Int.reduceSub, Int.reduceNeg, Int.reduceToNat, Int.reduceEq, reduceCtorEq, norm_cons, norm_nil, normB, pOwn, pSel, reach, addN, getO, live, ble_self, ble_add, blt_self, blt_add, beq_self, beq_add, beq_addr, beq_addl, get_appk, get_appz, set_appk, set_appz, len_app, List.append_assoc, List.cons_append, ble_s1, ble_s2, h1, h2, hg, ho, ho2, h3', subR]
  | succ n ih =>
    intro i room hr h
    have hi : i < l.length := by omega
    have h1 : (i : Int) < l.length := by omega
    have hvi := hv l[i] (List.getElem_mem hi)
    have h7 : room[l[i].toNat]? = some (room.getD l[i].toNat 0) := getD_some (by omega)
    have h8 : l[i] < (mk.length : Int) := by omega
    have h8' : l[i] < (room.length : Int) := by omega
    rw [lp_nx]; conv => lhs; arg 1; unfold x438b2
    simp only [↓sxP, sxQ, xai, xgo, xop, xG, AOp.touched, oldX, nwX, newX, xo, xput, refX, xbin, xint, loadP, loadX, ofC, xcells, xagg, Nat.blt, Value.oneCell', refsO, okGc, renO, rI, coX, Option.isSome, outS, outT, resX, tupX, lend1, lend0, scalX, xsb, pvX, zeroX, spliceG, xapp, xappP, xrd, eqP1, xstr, zpv, Nat.beq, Nat.ble, ↓reduceIte, Nat.reduceAdd, Nat.reduceLeDiff, Nat.reduceBEq, Nat.reduceEqDiff, Nat.reduceLT, Nat.reduceSub, Nat.reduceMul, Int.reduceLT, Int.reduceLE, Int.reduceAdd, Int.reduceSub, Int.reduceNeg, Int.reduceToNat, Int.reduceEq, reduceCtorEq, norm_cons, norm_nil, normB, pOwn, pSel, reach, addN, getO, live, ble_self, ble_add, blt_self, blt_add, beq_self, beq_add, beq_addr, beq_addl, get_appk, get_appz, set_appk, set_appz, len_app, List.append_assoc, List.cons_append, ble_s1, ble_s2, h1, get_some hi, hg, ho, ho2, h3', h7, h8, h8', hvi, hr, encI, splice, List.set, map_setI, x438a2n, wrap_succ (i := i) (by omega), drop_cons hi, subR]
    have ih' := ih (i + 1) (room.set l[i].toNat (IntKind.i64.wrap (room.getD l[i].toNat 0 - am))) (by simp [hr]) (by omega)
    simpa only [encI] using ih'
end Go.Abs

namespace Go.Abs
open Go
set_option linter.unusedSimpArgs false
set_option maxHeartbeats 2000000
set_option maxRecDepth 8000

/-- What 'packing' finds. -/
def packR (mk : List Int) : List (List Int) → Nat → List Int → List (Nat × Int) → Int → List (Nat × Int) × Int
  | [], _, _, out, s => (out, s)
  | l :: r, i, room, out, s =>
    if hasM mk l 1 = true then packR mk r (i + 1) room out s
    else if amt mk room l 1000000 = 0 then packR mk r (i + 1) room out s
    else packR mk r (i + 1) (subR (amt mk room l 1000000) l room) (out ++ [(i, amt mk room l 1000000)]) (IntKind.i64.wrap (s + amt mk room l 1000000))
theorem subR_len (am : Int) : ∀ (l room : List Int), (subR am l room).length = room.length
  | [], _ => rfl
  | v :: r, room => by simp [subR, subR_len am r]

theorem l438_3 {X : XHeap} {a m : Nat} {w : List Int} {e : List (List Int)} {mk : List Int} {left : Int} (hX : closedX X = true)
    (h3 : X[a]? = some (some (.mx 4 [[.p (.rd 1 (w.map encI)), .p (.rd 1 (e.map fun l => [PV.rd 1 (l.map encI)])), .ref m 0 mk.length, vI left]]))) (h4 : X[m]? = some (some (.pu 1 (mk.map encI)))) (he : e.length ≤ 1048576)
    (hm : ∀ l ∈ e, l.length ≤ 1048576) (hv : ∀ l ∈ e, ∀ v ∈ l, 0 ≤ v ∧ v.toNat < mk.length) : ∀ n i : Nat, ∀ room : List Int, ∀ out : List (Nat × Int), ∀ sum : Int, room.length = mk.length → out.length ≤ i → i + n = e.length →
    lp XT x438a3 x438b3 ⟨[(0, .ptr a 0 0), (4, .ref X.length 0 mk.length), (5, .ref (X.length + 1) 0 out.length), (6, vI sum), (24, .p (.rd 1 (e.map fun l => [PV.rd 1 (l.map encI)]))), (25, vI e.length), (26, vI i)], X ++ [some (.pu 1 (room.map encI)), some (.pu 2 (out.map encS))], X.length⟩ =
      some (.exit 0, ⟨[(5, .ref X.length 0 (packR mk (e.drop i) i room out sum).1.length), (6, vI (packR mk (e.drop i) i room out sum).2)], X ++ [some (.pu 2 ((packR mk (e.drop i) i room out sum).1.map encS))], X.length⟩) := by
  intro n
  have hg := gc_rules hX
  have ho := old_rules (live_get h3)
  have ho2 : Nat.ble (a + 1) X.length = true := ho.2.1
  have h3' := fun N => get_appL h3 N
  induction n with
  | zero =>
    intro i room out sum hr hol h
    have h1 : ¬ (i : Int) < e.length := by omega
    have h2 : e.drop i = [] := List.drop_of_length_le (by omega)
    rw [lp_nx]; conv => lhs; arg 1; unfold x438b3
    simp only [↓sxP, sxQ, xai, xgo, xop, xG, AOp.touched, oldX, nwX, newX, xo, xput, refX, xbin, xint, loadP, loadX, ofC, xcells, xagg, Nat.blt, Value.oneCell', refsO, okGc, renO, rI, coX, Option.isSome, outS, outT, resX, tupX, lend1, lend0, scalX, xsb, pvX, zeroX, spliceG, xapp, xappP, xrd, eqP1, xstr, zpv, Nat.beq, Nat.ble, ↓reduceIte, Nat.reduceAdd, Nat.reduceLeDiff, Nat.reduceBEq, Nat.reduceEqDiff, Nat.reduceLT, Nat.reduceSub, Nat.reduceMul, Int.reduceLT, Int.reduceLE, Int.reduceAdd, Int.reduceSub, Int.reduceNeg, Int.reduceToNat, Int.reduceEq, reduceCtorEq, norm_cons, norm_nil, normB, pOwn, pSel, reach, addN, getO, live, ble_self, ble_add, blt_self, blt_add, beq_self, beq_add, beq_addr, beq_addl, get_appk, get_appz, set_appk, set_appz, len_app, List.append_assoc, List.cons_append, ble_s1, ble_s2, h1, h2, hg, ho, ho2, h3', packR]
  | succ n ih =>
    intro i room out sum hr hol h
    have hi : i < e.length := by omega
    have h1 : (i : Int) < e.length := by omega
    have hmi := hm e[i] (List.getElem_mem hi)
    have hvi := hv e[i] (List.getElem_mem hi)
    have hXN : closedX (X ++ [some (.pu 1 (room.map encI)), some (.pu 2 (out.map encS))]) = true := closed_app hX fun o ho => by
      simp only [List.mem_cons, List.not_mem_nil, or_false] at ho
      rcases ho with rfl | rfl <;> rfl
    have hc := call450 (k := 1) (l := e[i]) hXN (get_appL h3 _) (get_appL h4 _) hmi hvi
    have hd := drop_cons hi
    rw [lp_nx]; conv => lhs; arg 1; unfold x438b3
    by_cases h5 : hasM mk e[i] 1 = true
    · simp only [↓sxP, sxQ, xai, xgo, xop, xG, AOp.touched, oldX, nwX, newX, xo, xput, refX, xbin, xint, loadP, loadX, ofC, xcells, xagg, Nat.blt, Value.oneCell', refsO, okGc, renO, rI, coX, Option.isSome, outS, outT, resX, tupX, lend1, lend0, scalX, xsb, pvX, zeroX, spliceG, xapp, xappP, xrd, eqP1, xstr, zpv, Nat.beq, Nat.ble, ↓reduceIte, Nat.reduceAdd, Nat.reduceLeDiff, Nat.reduceBEq, Nat.reduceEqDiff, Nat.reduceLT, Nat.reduceSub, Nat.reduceMul, Int.reduceLT, Int.reduceLE, Int.reduceAdd, Int.reduceSub, Int.reduceNeg, Int.reduceToNat, Int.reduceEq, reduceCtorEq, norm_cons, norm_nil, normB, pOwn, pSel, reach, addN, getO, live, ble_self, ble_add, blt_self, blt_add, beq_self, beq_add, beq_addr, beq_addl, get_appk, get_appz, set_appk, set_appz, len_app, List.append_assoc, List.cons_append, ble_s1, ble_s2, h1, get_some hi, hg, ho, ho2, h3', P450, hc, h5, x438a3n, wrap_succ (i := i) (by omega), ih (i + 1) room out sum hr (by omega) (by omega), hd, packR]
    · have h5' : hasM mk e[i] 1 = false := by simpa using h5
      have k1 := l438_1 hX h3 h4 room out sum i i e[i] hr hmi hvi e[i].length 0 1000000 (by omega)
      simp only [List.drop_zero, Int.natCast_zero, hr] at k1
      by_cases h6 : amt mk room e[i] 1000000 = 0
      · simp only [↓sxP, sxQ, xai, xgo, xop, xG, AOp.touched, oldX, nwX, newX, xo, xput, refX, xbin, xint, loadP, loadX, ofC, xcells, xagg, Nat.blt, Value.oneCell', refsO, okGc, renO, rI, coX, Option.isSome, outS, outT, resX, tupX, lend1, lend0, scalX, xsb, pvX, zeroX, spliceG, xapp, xappP, xrd, eqP1, xstr, zpv, Nat.beq, Nat.ble, ↓reduceIte, Nat.reduceAdd, Nat.reduceLeDiff, Nat.reduceBEq, Nat.reduceEqDiff, Nat.reduceLT, Nat.reduceSub, Nat.reduceMul, Int.reduceLT, Int.reduceLE, Int.reduceAdd, Int.reduceSub, Int.reduceNeg, Int.reduceToNat, Int.reduceEq, reduceCtorEq, norm_cons, norm_nil, normB, pOwn, pSel, reach, addN, getO, live, ble_self, ble_add, blt_self, blt_add, beq_self, beq_add, beq_addr, beq_addl, get_appk, get_appz, set_appk, set_appz, len_app, List.append_assoc, List.cons_append, ble_s1, ble_s2, h1, get_some hi, hg, ho, ho2, h3', P450, hc, h5', x438a1n, k1, h6, x438a3n, wrap_succ (i := i) (by omega), ih (i + 1) room out sum hr (by omega) (by omega), hd, packR]
      · have k2 := l438_2 hX h3 out sum (amt mk room e[i] 1000000) i i e[i] hmi hvi e[i].length 0 room hr (by omega)
        simp only [List.drop_zero, Int.natCast_zero] at k2
        have ih' := ih (i + 1) (subR (amt mk room e[i] 1000000) e[i] room) (out ++ [(i, amt mk room e[i] 1000000)]) (IntKind.i64.wrap (sum + amt mk room e[i] 1000000)) (by rw [subR_len]; exact hr) (by simp; omega) (by omega)
        simp only [List.map_append, List.map_cons, List.map_nil, encS, List.length_append, List.length_cons, List.length_nil, Nat.zero_add] at ih'
        have hb : out.length ≤ 1073741823 := by omega
        simp only [↓sxP, sxQ, xai, xgo, xop, xG, AOp.touched, oldX, nwX, newX, xo, xput, refX, xbin, xint, loadP, loadX, ofC, xcells, xagg, Nat.blt, Value.oneCell', refsO, okGc, renO, rI, coX, Option.isSome, outS, outT, resX, tupX, lend1, lend0, scalX, xsb, pvX, zeroX, spliceG, xapp, xappP, xrd, eqP1, xstr, zpv, Nat.beq, Nat.ble, ↓reduceIte, Nat.reduceAdd, Nat.reduceLeDiff, Nat.reduceBEq, Nat.reduceEqDiff, Nat.reduceLT, Nat.reduceSub, Nat.reduceMul, Int.reduceLT, Int.reduceLE, Int.reduceAdd, Int.reduceSub, Int.reduceNeg, Int.reduceToNat, Int.reduceEq, reduceCtorEq, norm_cons, norm_nil, normB, pOwn, pSel, reach, addN, getO, live, ble_self, ble_add, blt_self, blt_add, beq_self, beq_add, beq_addr, beq_addl, get_appk, get_appz, set_appk, set_appz, len_app, List.append_assoc, List.cons_append, ble_s1, ble_s2, h1, get_some hi, hg, ho, ho2, h3', P450, hc, h5', x438a1n, k1, h6, x438a2n, k2, xappP, maxEl, hb, List.set, List.mem_singleton, forall_eq, x438a3n, wrap_succ (i := i) (by omega), encS, ih', hd, packR]
end Go.Abs

namespace Go.Abs
open Go
set_option linter.unusedSimpArgs false
set_option maxHeartbeats 2000000
set_option maxRecDepth 8000

theorem call245 (l : List (List PV)) (hl : l.length ≤ 1048576) (X : XHeap) : call XT 245 [.p (.rd 1 l)] X = some (.ref X.length 0 l.length, X ++ [some (.pu 1 l)]) := by
  unfold call callX
  rw [T245]
  have h4 : Nat.ble l.length maxEl = true := Nat.ble_eq_true_of_le (by unfold maxEl; omega)
  have h5 : Nat.ble X.length (X ++ [some (XObj.pu 1 l)]).length = true := Nat.ble_eq_true_of_le (by simp)
  have h : cloneN 1 [.p (.rd 1 l)] X = some (.ref X.length 0 l.length, X ++ [some (.pu 1 l)]) := by
    show (bif Nat.beq 1 1 && Nat.ble l.length maxEl && Nat.ble 1 1 then some _ else none) = some _
    rw [h4]; rfl
  simp only [h, h5, cond_true]

theorem call438 {X : XHeap} {a m : Nat} {w : List Int} {e : List (List Int)} {mk : List Int} {left : Int} (hX : closedX X = true)
    (h3 : X[a]? = some (some (.mx 4 [[.p (.rd 1 (w.map encI)), .p (.rd 1 (e.map fun l => [PV.rd 1 (l.map encI)])), .ref m 0 mk.length, vI left]]))) (h4 : X[m]? = some (some (.pu 1 (mk.map encI)))) (hw : w.length = mk.length) (hw2 : w.length ≤ 1048576) (he : e.length ≤ 1048576)
    (hm : ∀ l ∈ e, l.length ≤ 1048576) (hv : ∀ l ∈ e, ∀ v ∈ l, 0 ≤ v ∧ v.toNat < mk.length) :
    call XT 438 [.ptr a 0 0] X = some (.tup [.ref X.length 0 (packR mk e 0 w [] 0).1.length, vI (packR mk e 0 w [] 0).2], X ++ [some (.pu 2 ((packR mk e 0 w [] 0).1.map encS))]) := by
  refine call_impure (F := f438) T438 rfl rfl ?_
  unfold f438 x438
  have hg := gc_rules hX
  have ho := old_rules (live_get h3)
  have ho2 : Nat.ble (a + 1) X.length = true := ho.2.1
  have h3' := fun N => get_appL h3 N
  have k0 := call245 (w.map encI) (by simpa using hw2) X
  have k1 := l438_3 hX h3 h4 he hm hv e.length 0 w [] 0 hw (Nat.le_refl _) (by omega)
  simp only [List.drop_zero, Int.natCast_zero, List.map_nil, List.length_nil] at k1
  have hlm : (w.map encI).length = mk.length := by simp [hw]
  rw [hlm] at k0
  simp only [↓sxP, sxQ, xai, xgo, xop, xG, AOp.touched, oldX, nwX, newX, xo, xput, refX, xbin, xint, loadP, loadX, ofC, xcells, xagg, Nat.blt, Value.oneCell', refsO, okGc, renO, rI, coX, Option.isSome, outS, outT, resX, tupX, lend1, lend0, scalX, xsb, pvX, zeroX, spliceG, xapp, xappP, xrd, eqP1, xstr, zpv, Nat.beq, Nat.ble, ↓reduceIte, Nat.reduceAdd, Nat.reduceLeDiff, Nat.reduceBEq, Nat.reduceEqDiff, Nat.reduceLT, Nat.reduceSub, Nat.reduceMul, Int.reduceLT, Int.reduceLE, Int.reduceAdd, Int.reduceSub, Int.reduceNeg, Int.reduceToNat, Int.reduceEq, reduceCtorEq, norm_cons, norm_nil, normB, pOwn, pSel, reach, addN, getO, live, ble_self, ble_add, blt_self, blt_add, beq_self, beq_add, beq_addr, beq_addl, get_appk, get_appz, set_appk, set_appz, len_app, List.append_assoc, List.cons_append, ble_s1, ble_s2, h3, hg, ho, ho2, h3', P245, k0, x438a3n, k1]
end Go.Abs

namespace Go.Abs
open Go
set_option linter.unusedSimpArgs false
set_option maxHeartbeats 2000000
set_option maxRecDepth 8000

theorem rep_enc (n : Nat) : (List.replicate n (0 : Int)).map encI = List.replicate n [PV.v (.int .i64 0)] := by rw [List.map_replicate]; rfl

theorem call429 {X : XHeap} (hX : closedX X = true) (w : List Int) (e : List (List Int)) (left : Int) (hw : w.length ≤ 1048576) :
    call XT 429 [.p (PV.agg [.rd 1 (w.map encI), .rd 1 (e.map fun l => [PV.rd 1 (l.map encI)])]), vI left] X = some (.ptr X.length 0 0, X ++ [some (.mx 4 [[.p (.rd 1 (w.map encI)), .p (.rd 1 (e.map fun l => [PV.rd 1 (l.map encI)])), .ref (X.length + 1) 0 w.length, vI left]]), some (.pu 1 ((List.replicate w.length 0).map encI))]) := by
  refine call_impure (F := f429) T429 rfl rfl ?_
  unfold f429 x429
  have hg := gc_rules hX
  have h1 : (w.length : Int) ≤ 1073741824 := by omega
  have h2 : w.length ≤ 1073741824 := by omega
  rw [rep_enc]
  have h3 : (w.length : Int) ≤ ((1073741824 : Nat) : Int) := by omega
  have h5 : Nat.blt X.length (X.length + 1) = true := Nat.ble_eq_true_of_le (by omega)
  have h6 : Nat.ble (X.length + 1) (X.length + 1) = true := Nat.ble_eq_true_of_le (by omega)
  simp only [↓sxP, sxQ, xai, xgo, xop, xG, AOp.touched, oldX, nwX, newX, xo, xput, refX, xbin, xint, loadP, loadX, ofC, xcells, xagg, Nat.blt, Value.oneCell', refsO, okGc, renO, rI, coX, Option.isSome, outS, outT, resX, tupX, lend1, lend0, scalX, xsb, pvX, zeroX, spliceG, xapp, xappP, xrd, eqP1, xstr, zpv, Nat.beq, Nat.ble, ↓reduceIte, Nat.reduceAdd, Nat.reduceLeDiff, Nat.reduceBEq, Nat.reduceEqDiff, Nat.reduceLT, Nat.reduceSub, Nat.reduceMul, Int.reduceLT, Int.reduceLE, Int.reduceAdd, Int.reduceSub, Int.reduceNeg, Int.reduceToNat, Int.reduceEq, reduceCtorEq, norm_cons, norm_nil, normB, pOwn, pSel, reach, addN, getO, live, ble_self, ble_add, blt_self, blt_add, beq_self, beq_add, beq_addr, beq_addl, get_appk, get_appz, set_appk, set_appz, len_app, List.append_assoc, List.cons_append, ble_s1, ble_s2, maxEl, AOp.touched, oldX, h5, h6, h1, h2, h3, hg, List.set, Int.le_refl]

/-- What 'Packing' finds. -/
def packI (w : List Int) (e : List (List Int)) : List (Nat × Int) × Int := packR (List.replicate w.length 0) e 0 w [] 0
theorem call415 (w : List Int) (e : List (List Int)) (hw : w.length ≤ 1048576) (he : e.length ≤ 1048576) (hm : ∀ a ∈ e, a.length ≤ 1048576) (hval : validI w e = 0) (X : XHeap) :
    call XT 415 [.p (PV.agg [.rd 1 (w.map encI), .rd 1 (e.map fun l => [PV.rd 1 (l.map encI)])])] X = some (.p (.tup [.rd 2 ((packI w e).1.map encS), pI (packI w e).2, pI 0]), X) := by
  refine call_pure (F := f415) (args := [PV.agg [.rd 1 (w.map encI), .rd 1 (e.map fun l => [PV.rd 1 (l.map encI)])]]) T415 rfl rfl ?_
  unfold f415 x415
  have k1 := call429 (X := [some (.mx 2 [[.p (.rd 1 (w.map encI)), .p (.rd 1 (e.map fun l => [PV.rd 1 (l.map encI)]))]])]) rfl w e 0 hw
  have k2 := call438 (X := [some (.mx 2 [[.p (.rd 1 (w.map encI)), .p (.rd 1 (e.map fun l => [PV.rd 1 (l.map encI)]))]]), some (.mx 4 [[.p (.rd 1 (w.map encI)), .p (.rd 1 (e.map fun l => [PV.rd 1 (l.map encI)])), .ref 2 0 w.length, vI 0]]), some (.pu 1 ((List.replicate w.length (0 : Int)).map encI))]) (a := 1) (m := 2) (w := w) (e := e) (mk := List.replicate w.length 0) (left := 0) rfl (by simp) rfl (by simp) hw he hm
    (fun l hl v hv => by
      have := (okE_mem ((valid_w hval).2.2 l hl)).1 v hv
      simpa using this)
  simp only [List.length_cons, List.length_nil, Nat.zero_add, List.cons_append, List.nil_append, Nat.reduceAdd] at k1 k2
  have hp : packR (List.replicate w.length 0) e 0 w [] 0 = packI w e := rfl
  rw [hp] at k2
  have ht : List.take (packI w e).1.length ((packI w e).1.map encS) = (packI w e).1.map encS := by rw [← List.map_take, List.take_length]
  simp only [↓sxP, sxQ, xai, xgo, xop, xG, AOp.touched, oldX, nwX, newX, xo, xput, refX, xbin, xint, loadP, loadX, ofC, xcells, xagg, Nat.blt, Value.oneCell', refsO, okGc, renO, rI, coX, Option.isSome, outS, outT, resX, tupX, lend1, lend0, scalX, xsb, pvX, zeroX, spliceG, xapp, xappP, xrd, eqP1, xstr, zpv, Nat.beq, Nat.ble, ↓reduceIte, Nat.reduceAdd, Nat.reduceLeDiff, Nat.reduceBEq, Nat.reduceEqDiff, Nat.reduceLT, Nat.reduceSub, Nat.reduceMul, Int.reduceLT, Int.reduceLE, Int.reduceAdd, Int.reduceSub, Int.reduceNeg, Int.reduceToNat, Int.reduceEq, reduceCtorEq, norm_cons, norm_nil, normB, pOwn, pSel, gcS, reach, addN, getO, live, gcH, maxEl, P401, call401 w e hm hw he, hval, P429, P438, k1, k2, ht]
end Go.Abs
