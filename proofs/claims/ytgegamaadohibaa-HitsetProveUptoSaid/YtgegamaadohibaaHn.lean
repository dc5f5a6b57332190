/- The search of chapter 39: spend, branch. No condition. -/
import Derived.Test.YtgegamaadohibaaHl
namespace Go.Abs
open Go
set_option linter.unusedSimpArgs false
set_option maxHeartbeats 8000000
set_option maxRecDepth 8000

theorem call443 {X : XHeap} {a m : Nat} {w : List Int} {e : List (List Int)} {mk : List Int} {left : Int} (hX : closedX X = true)
    (h3 : X[a]? = some (some (.mx 4 [[.p (.rd 1 (w.map encI)), .p (.rd 1 (e.map fun l => [PV.rd 1 (l.map encI)])), .ref m 0 mk.length, vI left]]))) (h4 : X[m]? = some (some (.pu 1 (mk.map encI)))) :
    call XT 443 [.ptr a 0 0] X = some (vB (decide (0 ≤ IntKind.i64.wrap (left - 1))), X.set a (some (.mx 4 [[.p (.rd 1 (w.map encI)), .p (.rd 1 (e.map fun l => [PV.rd 1 (l.map encI)])), .ref m 0 mk.length, vI (IntKind.i64.wrap (left - 1))]]))) := by
  refine call_impure (F := f443) T443 rfl rfl ?_
  unfold f443 x443
  have hal := live_lt (live_get h3)
  have hlm := live_get h4
  have hY : closedX (X.set a (some (.mx 4 [[.p (.rd 1 (w.map encI)), .p (.rd 1 (e.map fun l => [PV.rd 1 (l.map encI)])), .ref m 0 mk.length, vI (IntKind.i64.wrap (left - 1))]]))) = true := closed_set hX (by simp only [refsO, refsLL, refsL, refsV, List.append_nil, List.nil_append, List.all_cons, List.all_nil, hlm, Bool.and_self])
  have hn := norm_rules hY
  rw [List.length_set] at hn
  have g1 : (X.set a (some (.mx 4 [[.p (.rd 1 (w.map encI)), .p (.rd 1 (e.map fun l => [PV.rd 1 (l.map encI)])), .ref m 0 mk.length, vI (IntKind.i64.wrap (left - 1))]])))[a]? = some (some (.mx 4 [[.p (.rd 1 (w.map encI)), .p (.rd 1 (e.map fun l => [PV.rd 1 (l.map encI)])), .ref m 0 mk.length, vI (IntKind.i64.wrap (left - 1))]])) := List.getElem?_set_self hal
  simp only [↓sxP, sxQ, xai, xgo, xop, xG, AOp.touched, oldX, nwX, newX, xo, xput, refX, xbin, xint, loadP, loadX, ofC, xcells, xagg, Nat.blt, Value.oneCell', refsO, okGc, renO, rI, coX, Option.isSome, outS, outT, resX, tupX, lend1, lend0, scalX, xsb, pvX, zeroX, spliceG, xapp, xappP, xrd, eqP1, xstr, zpv, Nat.beq, Nat.ble, ↓reduceIte, Nat.reduceAdd, Nat.reduceLeDiff, Nat.reduceBEq, Nat.reduceEqDiff, Nat.reduceLT, Nat.reduceSub, Nat.reduceMul, Int.reduceLT, Int.reduceLE, Int.reduceAdd, Int.reduceSub, Int.reduceNeg, Int.reduceToNat, Int.reduceEq, reduceCtorEq, normC, selK, gcH, List.all_append, ble_self, h3, spliceG, g1, hn, List.length_set]

/-- The counts and the best vertex behind an edge. -/
def brI (mk : List Int) : List Int → List Int → Int → List Int × Int
  | [], ct, b => (ct, b)
  | v :: r, ct, b => if mk.getD v.toNat 0 ≠ 0 then brI mk r ct b else
    brI mk r (ct.set v.toNat (IntKind.i64.wrap (ct.getD v.toNat 0 + 1))) (if b < 0 ∨ (ct.set v.toNat (IntKind.i64.wrap (ct.getD v.toNat 0 + 1))).getD b.toNat 0 < (ct.set v.toNat (IntKind.i64.wrap (ct.getD v.toNat 0 + 1))).getD v.toNat 0 then v else b)

theorem l445_1 {X : XHeap} {a m : Nat} {w : List Int} {e : List (List Int)} {mk : List Int} {left : Int} (hX : closedX X = true)
    (h3 : X[a]? = some (some (.mx 4 [[.p (.rd 1 (w.map encI)), .p (.rd 1 (e.map fun l => [PV.rd 1 (l.map encI)])), .ref m 0 mk.length, vI left]]))) (h4 : X[m]? = some (some (.pu 1 (mk.map encI)))) (k : Nat) (l : List Int)
    (hl : l.length ≤ 1048576) (hv : ∀ v ∈ l, 0 ≤ v ∧ v.toNat < mk.length) : ∀ n i : Nat, ∀ ct : List Int, ∀ b : Int, ct.length = mk.length → (b < 0 ∨ (0 ≤ b ∧ b.toNat < mk.length)) → i + n = l.length →
    lp XT x445a1 x445b1 ⟨[(0, .ptr a 0 0), (3, .ref X.length 0 mk.length), (4, vI b), (19, .p (.rd 1 (e.map fun l => [PV.rd 1 (l.map encI)]))), (20, vI e.length), (21, vI k), (28, .p (.rd 1 (l.map encI))), (29, vI l.length), (30, vI i)], X ++ [some (.pu 1 (ct.map encI))], X.length⟩ =
      some (.exit 2, ⟨[(0, .ptr a 0 0), (3, .ref X.length 0 mk.length), (4, vI (brI mk (l.drop i) ct b).2), (19, .p (.rd 1 (e.map fun l => [PV.rd 1 (l.map encI)]))), (20, vI e.length), (21, vI k)], X ++ [some (.pu 1 ((brI mk (l.drop i) ct b).1.map encI))], X.length⟩) := by
  intro n
  have hg := gc_rules hX
  have ho := old_rules (live_get h3)
  have ho2 : Nat.ble (a + 1) X.length = true := ho.2.1
  have h3' := fun N => get_appL h3 N
  have h4' := fun N => get_appL h4 N
  induction n with
  | zero =>
    intro i ct b hr hb h
    have h1 : ¬ (i : Int) < l.length := by omega
    have h2 : l.drop i = [] := List.drop_of_length_le (by omega)
    rw [lp_nx]; conv => lhs; arg 1; unfold x445b1
    simp only [↓sxP, sxQ, xai, xgo, xop, xG, AOp.touched, oldX, nwX, newX, xo, xput, refX, xbin, xint, loadP, loadX, ofC, xcells, xagg, Nat.blt, Value.oneCell', refsO, okGc, renO, rI, coX, Option.isSome, outS, outT, resX, tupX, lend1, lend0, scalX, xsb, pvX, zeroX, spliceG, xapp, xappP, xrd, eqP1, xstr, zpv, Nat.beq, Nat.ble, ↓reduceIte, Nat.reduceAdd, Nat.reduceLeDiff, Nat.reduceBEq, Nat.reduceEqDiff, Nat.reduceLT, Nat.reduceSub, Nat.reduceMul, Int.reduceLT, Int.reduceLE, Int.reduceAdd, Int.reduceSub, Int.reduceNeg, Int.reduceToNat, Int.reduceEq, reduceCtorEq, norm_cons, norm_nil, normB, pOwn, pSel, reach, addN, getO, live, ble_self, ble_add, blt_self, blt_add, beq_self, beq_add, beq_addr, beq_addl, get_appk, get_appz, set_appk, set_appz, len_app, List.append_assoc, List.cons_append, ble_s1, ble_s2, h1, h2, hg, ho, ho2, h3', h4', brI]
  | succ n ih =>
    intro i ct b hr hb h
    have hi : i < l.length := by omega
    have h1 : (i : Int) < l.length := by omega
    have hvi := hv l[i] (List.getElem_mem hi)
    have h5 : mk[l[i].toNat]? = some (mk.getD l[i].toNat 0) := getD_some hvi.2
    have h6 : l[i] < (mk.length : Int) := by omega
    have hd := drop_cons hi
    rw [lp_nx]; conv => lhs; arg 1; unfold x445b1
    by_cases c1 : mk.getD l[i].toNat 0 = 0
    · have h7 : ct[l[i].toNat]? = some (ct.getD l[i].toNat 0) := getD_some (by omega)
      generalize hc2 : ct.set l[i].toNat (IntKind.i64.wrap (ct.getD l[i].toNat 0 + 1)) = ct2
      have hr2 : ct2.length = mk.length := by rw [← hc2]; simp [hr]
      have h8 : ct2[l[i].toNat]? = some (ct2.getD l[i].toNat 0) := getD_some (by omega)
      have hbr : brI mk (l[i] :: l.drop (i + 1)) ct b = brI mk (l.drop (i + 1)) ct2 (if b < 0 ∨ ct2.getD b.toNat 0 < ct2.getD l[i].toNat 0 then l[i] else b) := by
        rw [← hc2]; simp only [brI, c1, ne_eq, not_true, if_false]
      by_cases c2 : b < 0
      · have ih' := ih (i + 1) ct2 l[i] hr2 (.inr hvi) (by omega)
        rw [if_pos (.inl c2)] at hbr
        simp only [↓sxP, sxQ, xai, xgo, xop, xG, AOp.touched, oldX, nwX, newX, xo, xput, refX, xbin, xint, loadP, loadX, ofC, xcells, xagg, Nat.blt, Value.oneCell', refsO, okGc, renO, rI, coX, Option.isSome, outS, outT, resX, tupX, lend1, lend0, scalX, xsb, pvX, zeroX, spliceG, xapp, xappP, xrd, eqP1, xstr, zpv, Nat.beq, Nat.ble, ↓reduceIte, Nat.reduceAdd, Nat.reduceLeDiff, Nat.reduceBEq, Nat.reduceEqDiff, Nat.reduceLT, Nat.reduceSub, Nat.reduceMul, Int.reduceLT, Int.reduceLE, Int.reduceAdd, Int.reduceSub, Int.reduceNeg, Int.reduceToNat, Int.reduceEq, reduceCtorEq, norm_cons, norm_nil, normB, pOwn, pSel, reach, addN, getO, live, ble_self, ble_add, blt_self, blt_add, beq_self, beq_add, beq_addr, beq_addl, get_appk, get_appz, set_appk, set_appz, len_app, List.append_assoc, List.cons_append, ble_s1, ble_s2, h1, get_some hi, hg, ho, ho2, h3', h4', h5, h6, h7, h8, hr, hr2, hvi, c1, c2, encI, splice, map_setI, hc2, List.length_set, Nat.le_refl, hd, hbr, x445a1n, wrap_succ (i := i) (by omega)]
        simpa only [encI] using ih'
      · have hb0 : 0 ≤ b := by omega
        have hb1 : b.toNat < mk.length := by omega
        have hb2 : b < (mk.length : Int) := by omega
        have h9 : ct2[b.toNat]? = some (ct2.getD b.toNat 0) := getD_some (by omega)
        by_cases c3 : ct2.getD b.toNat 0 < ct2.getD l[i].toNat 0
        · have ih' := ih (i + 1) ct2 l[i] hr2 (.inr hvi) (by omega)
          rw [if_pos (.inr c3)] at hbr
          simp only [↓sxP, sxQ, xai, xgo, xop, xG, AOp.touched, oldX, nwX, newX, xo, xput, refX, xbin, xint, loadP, loadX, ofC, xcells, xagg, Nat.blt, Value.oneCell', refsO, okGc, renO, rI, coX, Option.isSome, outS, outT, resX, tupX, lend1, lend0, scalX, xsb, pvX, zeroX, spliceG, xapp, xappP, xrd, eqP1, xstr, zpv, Nat.beq, Nat.ble, ↓reduceIte, Nat.reduceAdd, Nat.reduceLeDiff, Nat.reduceBEq, Nat.reduceEqDiff, Nat.reduceLT, Nat.reduceSub, Nat.reduceMul, Int.reduceLT, Int.reduceLE, Int.reduceAdd, Int.reduceSub, Int.reduceNeg, Int.reduceToNat, Int.reduceEq, reduceCtorEq, norm_cons, norm_nil, normB, pOwn, pSel, reach, addN, getO, live, ble_self, ble_add, blt_self, blt_add, beq_self, beq_add, beq_addr, beq_addl, get_appk, get_appz, set_appk, set_appz, len_app, List.append_assoc, List.cons_append, ble_s1, ble_s2, h1, get_some hi, hg, ho, ho2, h3', h4', h5, h6, h7, h8, h9, hr, hr2, hvi, hb0, hb2, c1, c2, c3, encI, splice, map_setI, hc2, List.length_set, Nat.le_refl, hd, hbr, x445a1n, wrap_succ (i := i) (by omega)]
          simpa only [encI] using ih'
        · have ih' := ih (i + 1) ct2 b hr2 (.inr ⟨hb0, hb1⟩) (by omega)
          rw [if_neg (fun h => h.elim c2 c3)] at hbr
          simp only [↓sxP, sxQ, xai, xgo, xop, xG, AOp.touched, oldX, nwX, newX, xo, xput, refX, xbin, xint, loadP, loadX, ofC, xcells, xagg, Nat.blt, Value.oneCell', refsO, okGc, renO, rI, coX, Option.isSome, outS, outT, resX, tupX, lend1, lend0, scalX, xsb, pvX, zeroX, spliceG, xapp, xappP, xrd, eqP1, xstr, zpv, Nat.beq, Nat.ble, ↓reduceIte, Nat.reduceAdd, Nat.reduceLeDiff, Nat.reduceBEq, Nat.reduceEqDiff, Nat.reduceLT, Nat.reduceSub, Nat.reduceMul, Int.reduceLT, Int.reduceLE, Int.reduceAdd, Int.reduceSub, Int.reduceNeg, Int.reduceToNat, Int.reduceEq, reduceCtorEq, norm_cons, norm_nil, normB, pOwn, pSel, reach, addN, getO, live, ble_self, ble_add, blt_self, blt_add, beq_self, beq_add, beq_addr, beq_addl, get_appk, get_appz, set_appk, set_appz, len_app, List.append_assoc, List.cons_append, ble_s1, ble_s2, h1, get_some hi, hg, ho, ho2, h3', h4', h5, h6, h7, h8, h9, hr, hr2, hvi, hb0, hb2, c1, c2, c3, encI, splice, map_setI, hc2, List.length_set, Nat.le_refl, hd, hbr, x445a1n, wrap_succ (i := i) (by omega)]
          simpa only [encI] using ih'
    · have ih' := ih (i + 1) ct b hr hb (by omega)
      have hbr : brI mk (l[i] :: l.drop (i + 1)) ct b = brI mk (l.drop (i + 1)) ct b := by simp only [brI, c1, ne_eq, not_false_iff, if_true]
      simp only [↓sxP, sxQ, xai, xgo, xop, xG, AOp.touched, oldX, nwX, newX, xo, xput, refX, xbin, xint, loadP, loadX, ofC, xcells, xagg, Nat.blt, Value.oneCell', refsO, okGc, renO, rI, coX, Option.isSome, outS, outT, resX, tupX, lend1, lend0, scalX, xsb, pvX, zeroX, spliceG, xapp, xappP, xrd, eqP1, xstr, zpv, Nat.beq, Nat.ble, ↓reduceIte, Nat.reduceAdd, Nat.reduceLeDiff, Nat.reduceBEq, Nat.reduceEqDiff, Nat.reduceLT, Nat.reduceSub, Nat.reduceMul, Int.reduceLT, Int.reduceLE, Int.reduceAdd, Int.reduceSub, Int.reduceNeg, Int.reduceToNat, Int.reduceEq, reduceCtorEq, norm_cons, norm_nil, normB, pOwn, pSel, reach, addN, getO, live, ble_self, ble_add, blt_self, blt_add, beq_self, beq_add, beq_addr, beq_addl, get_appk, get_appz, set_appk, set_appz, len_app, List.append_assoc, List.cons_append, ble_s1, ble_s2, h1, get_some hi, hg, ho, ho2, h3', h4', h5, h6, hr, hvi, c1, encI, hd, hbr, x445a1n, wrap_succ (i := i) (by omega)]
      simpa only [encI] using ih'
end Go.Abs

namespace Go.Abs
open Go
set_option linter.unusedSimpArgs false
set_option maxHeartbeats 8000000
set_option maxRecDepth 8000

theorem brI_ok (mk : List Int) : ∀ (l ct : List Int) (b : Int), (∀ v ∈ l, 0 ≤ v ∧ v.toNat < mk.length) → ct.length = mk.length → (b < 0 ∨ (0 ≤ b ∧ b.toNat < mk.length)) →
    (brI mk l ct b).1.length = mk.length ∧ ((brI mk l ct b).2 < 0 ∨ (0 ≤ (brI mk l ct b).2 ∧ (brI mk l ct b).2.toNat < mk.length))
  | [], ct, b, _, hc, hb => ⟨hc, hb⟩
  | v :: r, ct, b, hv, hc, hb => by
    have hvr : ∀ u ∈ r, 0 ≤ u ∧ u.toNat < mk.length := fun u hu => hv u (List.mem_cons_of_mem _ hu)
    simp only [brI]
    split
    · exact brI_ok mk r ct b hvr hc hb
    · refine brI_ok mk r _ _ hvr (by simpa using hc) ?_
      split
      · exact .inr (hv v (List.mem_cons_self ..))
      · exact hb

/-- The best vertex behind all edges. -/
def brO (mk : List Int) : List (List Int) → List Int → Int → Int
  | [], _, b => b
  | l :: r, ct, b => if hasM mk l 1 = true then brO mk r ct b else brO mk r (brI mk l ct b).1 (brI mk l ct b).2

theorem l445_2 {X : XHeap} {a m : Nat} {w : List Int} {e : List (List Int)} {mk : List Int} {left : Int} (hX : closedX X = true)
    (h3 : X[a]? = some (some (.mx 4 [[.p (.rd 1 (w.map encI)), .p (.rd 1 (e.map fun l => [PV.rd 1 (l.map encI)])), .ref m 0 mk.length, vI left]]))) (h4 : X[m]? = some (some (.pu 1 (mk.map encI)))) (he : e.length ≤ 1048576)
    (hm : ∀ l ∈ e, l.length ≤ 1048576) (hv : ∀ l ∈ e, ∀ v ∈ l, 0 ≤ v ∧ v.toNat < mk.length) : ∀ n i : Nat, ∀ ct : List Int, ∀ b : Int, ct.length = mk.length → (b < 0 ∨ (0 ≤ b ∧ b.toNat < mk.length)) → i + n = e.length →
    lp XT x445a2 x445b2 ⟨[(0, .ptr a 0 0), (3, .ref X.length 0 mk.length), (4, vI b), (19, .p (.rd 1 (e.map fun l => [PV.rd 1 (l.map encI)]))), (20, vI e.length), (21, vI i)], X ++ [some (.pu 1 (ct.map encI))], X.length⟩ =
      some (.exit 0, ⟨[(4, vI (brO mk (e.drop i) ct b))], X, X.length⟩) := by
  intro n
  have hg := gc_rules hX
  have ho := old_rules (live_get h3)
  have ho2 : Nat.ble (a + 1) X.length = true := ho.2.1
  have h3' := fun N => get_appL h3 N
  have h4' := fun N => get_appL h4 N
  induction n with
  | zero =>
    intro i ct b hr hb h
    have h1 : ¬ (i : Int) < e.length := by omega
    have h2 : e.drop i = [] := List.drop_of_length_le (by omega)
    rw [lp_nx]; conv => lhs; arg 1; unfold x445b2
    simp only [↓sxP, sxQ, xai, xgo, xop, xG, AOp.touched, oldX, nwX, newX, xo, xput, refX, xbin, xint, loadP, loadX, ofC, xcells, xagg, Nat.blt, Value.oneCell', refsO, okGc, renO, rI, coX, Option.isSome, outS, outT, resX, tupX, lend1, lend0, scalX, xsb, pvX, zeroX, spliceG, xapp, xappP, xrd, eqP1, xstr, zpv, Nat.beq, Nat.ble, ↓reduceIte, Nat.reduceAdd, Nat.reduceLeDiff, Nat.reduceBEq, Nat.reduceEqDiff, Nat.reduceLT, Nat.reduceSub, Nat.reduceMul, Int.reduceLT, Int.reduceLE, Int.reduceAdd, Int.reduceSub, Int.reduceNeg, Int.reduceToNat, Int.reduceEq, reduceCtorEq, norm_cons, norm_nil, normB, pOwn, pSel, reach, addN, getO, live, ble_self, ble_add, blt_self, blt_add, beq_self, beq_add, beq_addr, beq_addl, get_appk, get_appz, set_appk, set_appz, len_app, List.append_assoc, List.cons_append, ble_s1, ble_s2, h1, h2, hg, ho, ho2, h3', h4', brO]
  | succ n ih =>
    intro i ct b hr hb h
    have hi : i < e.length := by omega
    have h1 : (i : Int) < e.length := by omega
    have hmi := hm e[i] (List.getElem_mem hi)
    have hvi := hv e[i] (List.getElem_mem hi)
    have hXN : closedX (X ++ [some (.pu 1 (ct.map encI))]) = true := closed_app hX fun o ho => by
      simp only [List.mem_cons, List.not_mem_nil, or_false] at ho
      subst ho; rfl
    have hc := call450 (k := 1) (l := e[i]) hXN (get_appL h3 _) (get_appL h4 _) hmi hvi
    have hd := drop_cons hi
    rw [lp_nx]; conv => lhs; arg 1; unfold x445b2
    by_cases h5 : hasM mk e[i] 1 = true
    · have ih' := ih (i + 1) ct b hr hb (by omega)
      simp only [↓sxP, sxQ, xai, xgo, xop, xG, AOp.touched, oldX, nwX, newX, xo, xput, refX, xbin, xint, loadP, loadX, ofC, xcells, xagg, Nat.blt, Value.oneCell', refsO, okGc, renO, rI, coX, Option.isSome, outS, outT, resX, tupX, lend1, lend0, scalX, xsb, pvX, zeroX, spliceG, xapp, xappP, xrd, eqP1, xstr, zpv, Nat.beq, Nat.ble, ↓reduceIte, Nat.reduceAdd, Nat.reduceLeDiff, Nat.reduceBEq, Nat.reduceEqDiff, Nat.reduceLT, Nat.reduceSub, Nat.reduceMul, Int.reduceLT, Int.reduceLE, Int.reduceAdd, Int.reduceSub, Int.reduceNeg, Int.reduceToNat, Int.reduceEq, reduceCtorEq, norm_cons, norm_nil, normB, pOwn, pSel, reach, addN, getO, live, ble_self, ble_add, blt_self, blt_add, beq_self, beq_add, beq_addr, beq_addl, get_appk, get_appz, set_appk, set_appz, len_app, List.append_assoc, List.cons_append, ble_s1, ble_s2, h1, get_some hi, hg, ho, ho2, h3', h4', P450, hc, h5, x445a2n, wrap_succ (i := i) (by omega), ih', hd, brO]
    · have h5' : hasM mk e[i] 1 = false := by simpa using h5
      have k1 := l445_1 hX h3 h4 i e[i] hmi hvi e[i].length 0 ct b hr hb (by omega)
      simp only [List.drop_zero, Int.natCast_zero] at k1
      obtain ⟨b1, b2⟩ := brI_ok mk e[i] ct b hvi hr hb
      have ih' := ih (i + 1) (brI mk e[i] ct b).1 (brI mk e[i] ct b).2 b1 b2 (by omega)
      simp only [↓sxP, sxQ, xai, xgo, xop, xG, AOp.touched, oldX, nwX, newX, xo, xput, refX, xbin, xint, loadP, loadX, ofC, xcells, xagg, Nat.blt, Value.oneCell', refsO, okGc, renO, rI, coX, Option.isSome, outS, outT, resX, tupX, lend1, lend0, scalX, xsb, pvX, zeroX, spliceG, xapp, xappP, xrd, eqP1, xstr, zpv, Nat.beq, Nat.ble, ↓reduceIte, Nat.reduceAdd, Nat.reduceLeDiff, Nat.reduceBEq, Nat.reduceEqDiff, Nat.reduceLT, Nat.reduceSub, Nat.reduceMul, Int.reduceLT, Int.reduceLE, Int.reduceAdd, Int.reduceSub, Int.reduceNeg, Int.reduceToNat, Int.reduceEq, reduceCtorEq, norm_cons, norm_nil, normB, pOwn, pSel, reach, addN, getO, live, ble_self, ble_add, blt_self, blt_add, beq_self, beq_add, beq_addr, beq_addl, get_appk, get_appz, set_appk, set_appz, len_app, List.append_assoc, List.cons_append, ble_s1, ble_s2, h1, get_some hi, hg, ho, ho2, h3', h4', P450, hc, h5', x445a1n, k1, x445a2n, wrap_succ (i := i) (by omega), ih', hd, brO]

theorem call445 {X : XHeap} {a m : Nat} {w : List Int} {e : List (List Int)} {mk : List Int} {left : Int} (hX : closedX X = true)
    (h3 : X[a]? = some (some (.mx 4 [[.p (.rd 1 (w.map encI)), .p (.rd 1 (e.map fun l => [PV.rd 1 (l.map encI)])), .ref m 0 mk.length, vI left]]))) (h4 : X[m]? = some (some (.pu 1 (mk.map encI)))) (hmk : mk.length ≤ 1048576) (he : e.length ≤ 1048576)
    (hm : ∀ l ∈ e, l.length ≤ 1048576) (hv : ∀ l ∈ e, ∀ v ∈ l, 0 ≤ v ∧ v.toNat < mk.length) :
    call XT 445 [.ptr a 0 0] X = some (vI (brO mk e (List.replicate mk.length 0) (-1)), X) := by
  refine call_impure (F := f445) T445 rfl rfl ?_
  unfold f445 x445
  have hg := gc_rules hX
  have hs' := gc_same hX
  have ho := old_rules (live_get h3)
  have ho2 : Nat.ble (a + 1) X.length = true := ho.2.1
  have h3' := fun N => get_appL h3 N
  have h4' := fun N => get_appL h4 N
  have k1 := l445_2 hX h3 h4 he hm hv e.length 0 (List.replicate mk.length 0) (-1) (by simp) (.inl (by omega)) (by omega)
  simp only [List.drop_zero, Int.natCast_zero, rep_enc] at k1
  have c2 : (mk.length : Int) ≤ ((1073741824 : Nat) : Int) := by omega
  simp only [↓sxP, sxQ, xai, xgo, xop, xG, AOp.touched, oldX, nwX, newX, xo, xput, refX, xbin, xint, loadP, loadX, ofC, xcells, xagg, Nat.blt, Value.oneCell', refsO, okGc, renO, rI, coX, Option.isSome, outS, outT, resX, tupX, lend1, lend0, scalX, xsb, pvX, zeroX, spliceG, xapp, xappP, xrd, eqP1, xstr, zpv, Nat.beq, Nat.ble, ↓reduceIte, Nat.reduceAdd, Nat.reduceLeDiff, Nat.reduceBEq, Nat.reduceEqDiff, Nat.reduceLT, Nat.reduceSub, Nat.reduceMul, Int.reduceLT, Int.reduceLE, Int.reduceAdd, Int.reduceSub, Int.reduceNeg, Int.reduceToNat, Int.reduceEq, reduceCtorEq, norm_cons, norm_nil, normB, pOwn, pSel, reach, addN, getO, live, ble_self, ble_add, blt_self, blt_add, beq_self, beq_add, beq_addr, beq_addl, get_appk, get_appz, set_appk, set_appz, len_app, List.append_assoc, List.cons_append, ble_s1, ble_s2, maxEl, hg, hs', ho, ho2, h3, h3', h4, h4', c2, x445a2n, k1, Int.le_refl]

/-! What 'branch' finds -/
/-- Open, if it is a vertex at all. -/
def openB (mk : List Int) (b : Int) : Prop := b < 0 ∨ (0 ≤ b ∧ b.toNat < mk.length ∧ mk.getD b.toNat 0 = 0)
theorem brI_open (mk : List Int) : ∀ (l ct : List Int) (b : Int), (∀ v ∈ l, 0 ≤ v ∧ v.toNat < mk.length) → openB mk b → openB mk (brI mk l ct b).2 ∧ (0 ≤ b ∨ (∃ v ∈ l, mk.getD v.toNat 0 = 0) → 0 ≤ (brI mk l ct b).2)
  | [], ct, b, _, hb => ⟨hb, fun h => h.elim id (fun ⟨v, hv, _⟩ => by cases hv)⟩
  | v :: r, ct, b, hv, hb => by
    have hvr : ∀ u ∈ r, 0 ≤ u ∧ u.toNat < mk.length := fun u hu => hv u (List.mem_cons_of_mem _ hu)
    have hv0 := hv v (List.mem_cons_self ..)
    simp only [brI]
    split
    · rename_i hz
      obtain ⟨k1, k2⟩ := brI_open mk r ct b hvr hb
      refine ⟨k1, fun h => k2 ?_⟩
      rcases h with h | ⟨u, hu, hu0⟩
      · exact .inl h
      · rcases List.mem_cons.1 hu with rfl | hu
        · exact absurd hu0 hz
        · exact .inr ⟨u, hu, hu0⟩
    · rename_i hz
      have hz' : mk.getD v.toNat 0 = 0 := Classical.byContradiction hz
      by_cases hc : b < 0 ∨ (ct.set v.toNat (IntKind.i64.wrap (ct.getD v.toNat 0 + 1))).getD b.toNat 0 < (ct.set v.toNat (IntKind.i64.wrap (ct.getD v.toNat 0 + 1))).getD v.toNat 0
      · rw [if_pos hc]
        obtain ⟨k1, k2⟩ := brI_open mk r (ct.set v.toNat (IntKind.i64.wrap (ct.getD v.toNat 0 + 1))) v hvr (.inr ⟨hv0.1, hv0.2, hz'⟩)
        exact ⟨k1, fun _ => k2 (.inl hv0.1)⟩
      · rw [if_neg hc]
        obtain ⟨k1, k2⟩ := brI_open mk r (ct.set v.toNat (IntKind.i64.wrap (ct.getD v.toNat 0 + 1))) b hvr hb
        refine ⟨k1, fun _ => k2 (.inl ?_)⟩
        have : ¬ b < 0 := fun h => hc (.inl h)
        omega

theorem brO_open (mk : List Int) : ∀ (e : List (List Int)) (ct : List Int) (b : Int), (∀ l ∈ e, ∀ v ∈ l, 0 ≤ v ∧ v.toNat < mk.length) → openB mk b →
    openB mk (brO mk e ct b) ∧ (0 ≤ b ∨ (∃ l ∈ e, hasM mk l 1 = false ∧ hasM mk l 0 = true) → 0 ≤ brO mk e ct b)
  | [], ct, b, _, hb => ⟨hb, fun h => h.elim id (fun ⟨v, hv, _⟩ => by cases hv)⟩
  | l :: r, ct, b, hv, hb => by
    have hvr : ∀ l ∈ r, ∀ u ∈ l, 0 ≤ u ∧ u.toNat < mk.length := fun l hl => hv l (List.mem_cons_of_mem _ hl)
    simp only [brO]
    split
    · rename_i hc
      obtain ⟨k1, k2⟩ := brO_open mk r ct b hvr hb
      refine ⟨k1, fun h => k2 ?_⟩
      rcases h with h | ⟨u, hu, hu0, hu1⟩
      · exact .inl h
      · rcases List.mem_cons.1 hu with rfl | hu
        · rw [hc] at hu0; cases hu0
        · exact .inr ⟨u, hu, hu0, hu1⟩
    · rename_i hc
      obtain ⟨j1, j2⟩ := brI_open mk l ct b (hv l (List.mem_cons_self ..)) hb
      obtain ⟨k1, k2⟩ := brO_open mk r (brI mk l ct b).1 (brI mk l ct b).2 hvr j1
      refine ⟨k1, fun h => k2 ?_⟩
      rcases h with h | ⟨u, hu, hu0, hu1⟩
      · exact .inl (j2 (.inl h))
      · rcases List.mem_cons.1 hu with rfl | hu
        · refine .inl (j2 (.inr ?_))
          unfold hasM at hu1
          obtain ⟨v, hv, h0⟩ := List.any_eq_true.1 hu1
          exact ⟨v, hv, by simpa using h0⟩
        · exact .inr ⟨u, hu, hu0, hu1⟩

/-- Where no edge is dead: an open vertex, or all edges are hit. -/
theorem branch_spec {mk : List Int} {e : List (List Int)} (hv : ∀ l ∈ e, ∀ v ∈ l, 0 ≤ v ∧ v.toNat < mk.length) (hd : deadM mk e = false) :
    openB mk (brO mk e (List.replicate mk.length 0) (-1)) ∧ (brO mk e (List.replicate mk.length 0) (-1) < 0 → ∀ l ∈ e, hasM mk l 1 = true) := by
  obtain ⟨k1, k2⟩ := brO_open mk e (List.replicate mk.length 0) (-1) hv (.inl (by omega))
  refine ⟨k1, fun h l hl => ?_⟩
  cases h1 : hasM mk l 1 with
  | true => rfl
  | false =>
    have hdl : deadE mk l = false := by
      have := List.any_eq_false.1 hd l hl
      simpa using this
    unfold deadE at hdl
    rw [h1] at hdl
    have h0 : hasM mk l 0 = true := by simpa using hdl
    have := k2 (.inr ⟨l, hl, h1, h0⟩)
    omega
end Go.Abs

namespace Go.Abs
open Go
set_option linter.unusedSimpArgs false
set_option maxHeartbeats 16000000
set_option maxRecDepth 8000

def nz : List Int → Nat
  | [] => 0
  | x :: r => (if x = 0 then 1 else 0) + nz r
theorem nz_set {x : Int} (hx : x ≠ 0) : ∀ (l : List Int) (i : Nat), l[i]? = some 0 → nz (l.set i x) + 1 = nz l
  | [], i, h => by simp at h
  | y :: r, 0, h => by
    simp only [List.getElem?_cons_zero, Option.some.injEq] at h
    subst h
    simp only [List.set_cons_zero, nz, if_neg hx, if_true]; omega
  | y :: r, i + 1, h => by
    rw [List.getElem?_cons_succ] at h
    have := nz_set hx r i h
    simp only [List.set_cons_succ, nz]; omega

/-- What 'prove' answers: nodes, error, marks, what is left. -/
def prv (w : List Int) (e : List (List Int)) : Nat → List Int → Int → Int → (List Nd × Int) × (List Int × Int)
  | 0, mk, _, left => (([], 13), (mk, left))
  | f + 1, mk, b, left =>
    if ¬ 0 ≤ IntKind.i64.wrap (left - 1) then (([], 13), (mk, IntKind.i64.wrap (left - 1)))
    else if b ≤ 0 then (([(-1, [])], 0), (mk, IntKind.i64.wrap (left - 1)))
    else if deadM mk e = true then (([(-1, [])], 0), (mk, IntKind.i64.wrap (left - 1)))
    else if b ≤ (packR mk e 0 w [] 0).2 then (([(-1, toI (packR mk e 0 w [] 0).1)], 0), (mk, IntKind.i64.wrap (left - 1)))
    else if brO mk e (List.replicate mk.length 0) (-1) < 0 then (([], 11), (mk, IntKind.i64.wrap (left - 1)))
    else match prv w e f (mk.set (brO mk e (List.replicate mk.length 0) (-1)).toNat 1) (IntKind.i64.wrap (b - w.getD (brO mk e (List.replicate mk.length 0) (-1)).toNat 0)) (IntKind.i64.wrap (left - 1)) with
      | ((a, er), (q, l1)) => if er ≠ 0 then (([], er), (q, l1)) else
        match prv w e f (q.set (brO mk e (List.replicate mk.length 0) (-1)).toNat 2) b l1 with
        | ((a', er'), (q', l2)) => if er' ≠ 0 then (([], er'), (q', l2)) else (((brO mk e (List.replicate mk.length 0) (-1), []) :: (a ++ a'), 0), (q'.set (brO mk e (List.replicate mk.length 0) (-1)).toNat 0, l2))

theorem prv_len (w : List Int) (e : List (List Int)) : ∀ (f : Nat) (mk : List Int) (b left : Int), (prv w e f mk b left).2.1.length = mk.length
  | 0, _, _, _ => rfl
  | f + 1, mk, b, left => by
    simp only [prv]
    split
    · rfl
    · split
      · rfl
      · split
        · rfl
        · split
          · rfl
          · split
            · rfl
            · have k1 := prv_len w e f (mk.set (brO mk e (List.replicate mk.length 0) (-1)).toNat 1) (IntKind.i64.wrap (b - w.getD (brO mk e (List.replicate mk.length 0) (-1)).toNat 0)) (IntKind.i64.wrap (left - 1))
              cases hq : prv w e f (mk.set (brO mk e (List.replicate mk.length 0) (-1)).toNat 1) (IntKind.i64.wrap (b - w.getD (brO mk e (List.replicate mk.length 0) (-1)).toNat 0)) (IntKind.i64.wrap (left - 1)) with
              | mk x y =>
                obtain ⟨a, er⟩ := x
                obtain ⟨q, l1⟩ := y
                rw [hq] at k1
                simp only [List.length_set] at k1
                simp only
                split
                · exact k1
                · have k2 := prv_len w e f (q.set (brO mk e (List.replicate mk.length 0) (-1)).toNat 2) b l1
                  cases hq2 : prv w e f (q.set (brO mk e (List.replicate mk.length 0) (-1)).toNat 2) b l1 with
                  | mk x y =>
                    obtain ⟨a', er'⟩ := x
                    obtain ⟨q', l2⟩ := y
                    rw [hq2] at k2
                    simp only [List.length_set] at k2
                    simp only
                    split
                    · simp only; omega
                    · simp only [List.length_set]; omega

/-- Where it answers nodes, the marks are as they were. -/
theorem prv_same (w : List Int) (e : List (List Int)) : ∀ (f : Nat) (mk : List Int) (b left : Int), (∀ l ∈ e, ∀ v ∈ l, 0 ≤ v ∧ v.toNat < mk.length) → (prv w e f mk b left).1.2 = 0 → (prv w e f mk b left).2.1 = mk
  | 0, _, _, _, _, h => by simp [prv] at h
  | f + 1, mk, b, left, hv, h => by
    simp only [prv] at h ⊢
    split
    · rfl
    · rename_i c1
      rw [if_neg c1] at h
      split
      · rfl
      · rename_i c2
        rw [if_neg c2] at h
        split
        · rfl
        · rename_i c3
          rw [if_neg c3] at h
          split
          · rfl
          · rename_i c4
            rw [if_neg c4] at h
            split
            · rfl
            · rename_i c5
              rw [if_neg c5] at h
              have hb := (branch_spec hv (by simpa using c3)).1
              generalize brO mk e (List.replicate mk.length 0) (-1) = v at *
              obtain ⟨b0, b1, b2⟩ := hb.resolve_left c5
              have k1 := prv_same w e f (mk.set v.toNat 1) (IntKind.i64.wrap (b - w.getD v.toNat 0)) (IntKind.i64.wrap (left - 1)) (by simpa using hv)
              cases hq : prv w e f (mk.set v.toNat 1) (IntKind.i64.wrap (b - w.getD v.toNat 0)) (IntKind.i64.wrap (left - 1)) with
              | mk x y =>
                obtain ⟨a, er⟩ := x
                obtain ⟨q, l1⟩ := y
                rw [hq] at k1 h
                simp only at k1 h ⊢
                split at h
                · rename_i c6; exact absurd h c6
                · rename_i c6
                  rw [if_neg c6]
                  have hq1 := k1 (by simpa using c6)
                  subst hq1
                  rw [List.set_set] at h ⊢
                  have k2 := prv_same w e f (mk.set v.toNat 2) b l1 (by simpa using hv)
                  cases hq2 : prv w e f (mk.set v.toNat 2) b l1 with
                  | mk x y =>
                    obtain ⟨a', er'⟩ := x
                    obtain ⟨q', l2⟩ := y
                    rw [hq2] at k2 h
                    simp only at k2 h ⊢
                    split at h
                    · rename_i c7; exact absurd h c7
                    · rename_i c7
                      rw [if_neg c7]
                      have hq2 := k2 (by simpa using c7)
                      subst hq2
                      simp only [List.set_set]
                      have hlt : v.toNat < mk.length := b1
                      rw [List.getD_eq_getElem?_getD, List.getElem?_eq_getElem hlt] at b2
                      simp only [Option.getD_some] at b2
                      have : mk.set v.toNat (mk[v.toNat]'hlt) = mk := List.set_getElem_self _
                      rwa [b2] at this
end Go.Abs

namespace Go.Abs
open Go
set_option linter.unusedSimpArgs false
set_option maxHeartbeats 8000000
set_option maxRecDepth 8000

theorem call456 (n : Int) (h0 : 0 ≤ n) (h1 : n ≤ 1048576) (X : XHeap) : call XT 456 [.p .emp, vI n] X = some (.ref X.length 0 0, X ++ [some (.pu 2 [])]) := by
  unfold call callX
  rw [T456]
  have h5 : Nat.ble X.length (X ++ [some (XObj.pu 2 [])]).length = true := Nat.ble_eq_true_of_le (by simp)
  have h : growN 2 [.p .emp, vI n] X = some (.ref X.length 0 0, X ++ [some (.pu 2 [])]) := by
    show (if 0 ≤ n ∧ n ≤ 1048576 then some _ else none) = some _
    rw [if_pos ⟨h0, h1⟩]
  simp only [h, h5, cond_true]

theorem nde_len (n : List Nd) : ∀ e ∈ n.map (fun n => [pI n.1, PV.rd 2 (n.2.map encSI)]), e.length = 2 := fun e he => by
  obtain ⟨v, _, rfl⟩ := List.mem_map.1 he
  rfl
theorem xapp_nde (X : XHeap) (s : XV) (n : List Nd) : xappP X 2 s (n.map fun n => [pI n.1, PV.rd 2 (n.2.map encSI)]) = xappQ X 2 s (n.map fun n => [pI n.1, PV.rd 2 (n.2.map encSI)]) := xappP_q (nde_len n)

theorem call451 (v : Int) (n1 n2 : List Nd) (h : 1 + n1.length + n2.length ≤ 1048576) (X : XHeap) : call XT 451 [.p (.rd 1 [[.rd 2 [[pI v, .rd 2 []]]], [.rd 2 (n1.map fun n => [pI n.1, .rd 2 (n.2.map encSI)])], [.rd 2 (n2.map fun n => [pI n.1, .rd 2 (n.2.map encSI)])]])] X = some (.p (.rd 2 ([[pI v, .rd 2 []]] ++ ((n1.map fun n => [pI n.1, .rd 2 (n.2.map encSI)]) ++ (n2.map fun n => [pI n.1, .rd 2 (n.2.map encSI)])))), X) := by
  refine call_pure (F := f451) (args := [.rd 1 [[.rd 2 [[pI v, .rd 2 []]]], [.rd 2 (n1.map fun n => [pI n.1, .rd 2 (n.2.map encSI)])], [.rd 2 (n2.map fun n => [pI n.1, .rd 2 (n.2.map encSI)])]]]) T451 rfl rfl ?_
  have w1 : IntKind.i64.wrap 1 = 1 := rfl
  have w2 : IntKind.i64.wrap 2 = 2 := rfl
  have w3 : IntKind.i64.wrap 3 = 3 := rfl
  have s1 : IntKind.i64.wrap (1 + (n1.length : Int)) = ((1 + n1.length : Nat) : Int) := by rw [wrap64 _ (by omega) (by omega)]; omega
  have s2 : IntKind.i64.wrap (((1 + n1.length : Nat) : Int) + (n2.length : Int)) = ((1 + n1.length + n2.length : Nat) : Int) := by rw [wrap64 _ (by omega) (by omega)]; omega
  have p1 : ¬ ((1 + n1.length : Nat) : Int) < 0 := by omega
  have p2 : ¬ ((1 + n1.length + n2.length : Nat) : Int) < 0 := by omega
  have a3 : ∀ s : Int, lp XT x451a1 x451b1 ⟨[(0, .p (.rd 1 [[.rd 2 [[pI v, .rd 2 []]]], [.rd 2 (n1.map fun n => [pI n.1, .rd 2 (n.2.map encSI)])], [.rd 2 (n2.map fun n => [pI n.1, .rd 2 (n.2.map encSI)])]])), (3, vI s), (9, .p (.rd 1 [[.rd 2 [[pI v, .rd 2 []]]], [.rd 2 (n1.map fun n => [pI n.1, .rd 2 (n.2.map encSI)])], [.rd 2 (n2.map fun n => [pI n.1, .rd 2 (n.2.map encSI)])]])), (10, vI 3), (11, vI 3)], [], 0⟩ = some (.exit 0, ⟨[(0, .p (.rd 1 [[.rd 2 [[pI v, .rd 2 []]]], [.rd 2 (n1.map fun n => [pI n.1, .rd 2 (n.2.map encSI)])], [.rd 2 (n2.map fun n => [pI n.1, .rd 2 (n.2.map encSI)])]])), (3, vI s)], [], 0⟩) := fun s => by
    rw [lp_nx]; conv => lhs; arg 1; unfold x451b1
    simp only [↓sxP, sxQ, xai, xgo, xop, xG, AOp.touched, oldX, nwX, newX, xo, xput, refX, xbin, xint, loadP, loadX, ofC, xcells, xagg, Nat.blt, Value.oneCell', refsO, okGc, renO, rI, coX, Option.isSome, outS, outT, resX, tupX, lend1, lend0, scalX, xsb, pvX, zeroX, spliceG, xapp, xappP, xrd, eqP1, xstr, zpv, Nat.beq, Nat.ble, ↓reduceIte, Nat.reduceAdd, Nat.reduceLeDiff, Nat.reduceBEq, Nat.reduceEqDiff, Nat.reduceLT, Nat.reduceSub, Nat.reduceMul, Int.reduceLT, Int.reduceLE, Int.reduceAdd, Int.reduceSub, Int.reduceNeg, Int.reduceToNat, Int.reduceEq, reduceCtorEq, norm_cons, norm_nil, normB, pOwn, pSel, gcS, reach, addN, getO, live, gcH]
  have a2 : lp XT x451a1 x451b1 ⟨[(0, .p (.rd 1 [[.rd 2 [[pI v, .rd 2 []]]], [.rd 2 (n1.map fun n => [pI n.1, .rd 2 (n.2.map encSI)])], [.rd 2 (n2.map fun n => [pI n.1, .rd 2 (n.2.map encSI)])]])), (3, vI ((1 + n1.length : Nat) : Int)), (9, .p (.rd 1 [[.rd 2 [[pI v, .rd 2 []]]], [.rd 2 (n1.map fun n => [pI n.1, .rd 2 (n.2.map encSI)])], [.rd 2 (n2.map fun n => [pI n.1, .rd 2 (n.2.map encSI)])]])), (10, vI 3), (11, vI 2)], [], 0⟩ = some (.exit 0, ⟨[(0, .p (.rd 1 [[.rd 2 [[pI v, .rd 2 []]]], [.rd 2 (n1.map fun n => [pI n.1, .rd 2 (n.2.map encSI)])], [.rd 2 (n2.map fun n => [pI n.1, .rd 2 (n.2.map encSI)])]])), (3, vI ((1 + n1.length + n2.length : Nat) : Int))], [], 0⟩) := by
    rw [lp_nx]; conv => lhs; arg 1; unfold x451b1
    simp only [↓sxP, sxQ, xai, xgo, xop, xG, AOp.touched, oldX, nwX, newX, xo, xput, refX, xbin, xint, loadP, loadX, ofC, xcells, xagg, Nat.blt, Value.oneCell', refsO, okGc, renO, rI, coX, Option.isSome, outS, outT, resX, tupX, lend1, lend0, scalX, xsb, pvX, zeroX, spliceG, xapp, xappP, xrd, eqP1, xstr, zpv, Nat.beq, Nat.ble, ↓reduceIte, Nat.reduceAdd, Nat.reduceLeDiff, Nat.reduceBEq, Nat.reduceEqDiff, Nat.reduceLT, Nat.reduceSub, Nat.reduceMul, Int.reduceLT, Int.reduceLE, Int.reduceAdd, Int.reduceSub, Int.reduceNeg, Int.reduceToNat, Int.reduceEq, reduceCtorEq, norm_cons, norm_nil, normB, pOwn, pSel, gcS, reach, addN, getO, live, gcH, s2, p2, w3, x451a1n, a3]
  have a1 : lp XT x451a1 x451b1 ⟨[(0, .p (.rd 1 [[.rd 2 [[pI v, .rd 2 []]]], [.rd 2 (n1.map fun n => [pI n.1, .rd 2 (n.2.map encSI)])], [.rd 2 (n2.map fun n => [pI n.1, .rd 2 (n.2.map encSI)])]])), (3, vI 1), (9, .p (.rd 1 [[.rd 2 [[pI v, .rd 2 []]]], [.rd 2 (n1.map fun n => [pI n.1, .rd 2 (n.2.map encSI)])], [.rd 2 (n2.map fun n => [pI n.1, .rd 2 (n.2.map encSI)])]])), (10, vI 3), (11, vI 1)], [], 0⟩ = some (.exit 0, ⟨[(0, .p (.rd 1 [[.rd 2 [[pI v, .rd 2 []]]], [.rd 2 (n1.map fun n => [pI n.1, .rd 2 (n.2.map encSI)])], [.rd 2 (n2.map fun n => [pI n.1, .rd 2 (n.2.map encSI)])]])), (3, vI ((1 + n1.length + n2.length : Nat) : Int))], [], 0⟩) := by
    rw [lp_nx]; conv => lhs; arg 1; unfold x451b1
    simp only [↓sxP, sxQ, xai, xgo, xop, xG, AOp.touched, oldX, nwX, newX, xo, xput, refX, xbin, xint, loadP, loadX, ofC, xcells, xagg, Nat.blt, Value.oneCell', refsO, okGc, renO, rI, coX, Option.isSome, outS, outT, resX, tupX, lend1, lend0, scalX, xsb, pvX, zeroX, spliceG, xapp, xappP, xrd, eqP1, xstr, zpv, Nat.beq, Nat.ble, ↓reduceIte, Nat.reduceAdd, Nat.reduceLeDiff, Nat.reduceBEq, Nat.reduceEqDiff, Nat.reduceLT, Nat.reduceSub, Nat.reduceMul, Int.reduceLT, Int.reduceLE, Int.reduceAdd, Int.reduceSub, Int.reduceNeg, Int.reduceToNat, Int.reduceEq, reduceCtorEq, norm_cons, norm_nil, normB, pOwn, pSel, gcS, reach, addN, getO, live, gcH, s1, p1, w2, x451a1n, a2]
  have a0 : lp XT x451a1 x451b1 ⟨[(0, .p (.rd 1 [[.rd 2 [[pI v, .rd 2 []]]], [.rd 2 (n1.map fun n => [pI n.1, .rd 2 (n.2.map encSI)])], [.rd 2 (n2.map fun n => [pI n.1, .rd 2 (n.2.map encSI)])]])), (3, vI 0), (9, .p (.rd 1 [[.rd 2 [[pI v, .rd 2 []]]], [.rd 2 (n1.map fun n => [pI n.1, .rd 2 (n.2.map encSI)])], [.rd 2 (n2.map fun n => [pI n.1, .rd 2 (n.2.map encSI)])]])), (10, vI 3), (11, vI 0)], [], 0⟩ = some (.exit 0, ⟨[(0, .p (.rd 1 [[.rd 2 [[pI v, .rd 2 []]]], [.rd 2 (n1.map fun n => [pI n.1, .rd 2 (n.2.map encSI)])], [.rd 2 (n2.map fun n => [pI n.1, .rd 2 (n.2.map encSI)])]])), (3, vI ((1 + n1.length + n2.length : Nat) : Int))], [], 0⟩) := by
    rw [lp_nx]; conv => lhs; arg 1; unfold x451b1
    simp only [↓sxP, sxQ, xai, xgo, xop, xG, AOp.touched, oldX, nwX, newX, xo, xput, refX, xbin, xint, loadP, loadX, ofC, xcells, xagg, Nat.blt, Value.oneCell', refsO, okGc, renO, rI, coX, Option.isSome, outS, outT, resX, tupX, lend1, lend0, scalX, xsb, pvX, zeroX, spliceG, xapp, xappP, xrd, eqP1, xstr, zpv, Nat.beq, Nat.ble, ↓reduceIte, Nat.reduceAdd, Nat.reduceLeDiff, Nat.reduceBEq, Nat.reduceEqDiff, Nat.reduceLT, Nat.reduceSub, Nat.reduceMul, Int.reduceLT, Int.reduceLE, Int.reduceAdd, Int.reduceSub, Int.reduceNeg, Int.reduceToNat, Int.reduceEq, reduceCtorEq, norm_cons, norm_nil, normB, pOwn, pSel, gcS, reach, addN, getO, live, gcH, w1, x451a1n, Int.natCast_one, a1]
  have hm1 : 1 + n1.length ≤ 1073741824 := by omega
  have hm2 : n1.length + 1 + n2.length ≤ 1073741824 := by omega
  have k456 := fun X => call456 ((1 + n1.length + n2.length : Nat) : Int) (by omega) (by omega) X
  have q1 : (n1.map fun n => [pI n.1, .rd 2 (n.2.map encSI)]).length = n1.length := by simp
  have b3 : lp XT x451a2 x451b2 ⟨[(6, .ref 0 0 (n1.length + n2.length + 1)), (25, .p (.rd 1 [[.rd 2 [[pI v, .rd 2 []]]], [.rd 2 (n1.map fun n => [pI n.1, .rd 2 (n.2.map encSI)])], [.rd 2 (n2.map fun n => [pI n.1, .rd 2 (n.2.map encSI)])]])), (26, vI 3), (27, vI 3)], [some (.pu 2 ([pI v, .rd 2 []] :: ((n1.map fun n => [pI n.1, .rd 2 (n.2.map encSI)]) ++ (n2.map fun n => [pI n.1, .rd 2 (n.2.map encSI)]))))], 0⟩ = some (.exit 2, ⟨[(6, .ref 0 0 (n1.length + n2.length + 1))], [some (.pu 2 ([pI v, .rd 2 []] :: ((n1.map fun n => [pI n.1, .rd 2 (n.2.map encSI)]) ++ (n2.map fun n => [pI n.1, .rd 2 (n.2.map encSI)]))))], 0⟩) := by
    rw [lp_nx]; conv => lhs; arg 1; unfold x451b2
    simp only [↓sxP, sxQ, xai, xgo, xop, xG, AOp.touched, oldX, nwX, newX, xo, xput, refX, xbin, xint, loadP, loadX, ofC, xcells, xagg, Nat.blt, Value.oneCell', refsO, okGc, renO, rI, coX, Option.isSome, outS, outT, resX, tupX, lend1, lend0, scalX, xsb, pvX, zeroX, spliceG, xapp, xappP, xrd, eqP1, xstr, zpv, Nat.beq, Nat.ble, ↓reduceIte, Nat.reduceAdd, Nat.reduceLeDiff, Nat.reduceBEq, Nat.reduceEqDiff, Nat.reduceLT, Nat.reduceSub, Nat.reduceMul, Int.reduceLT, Int.reduceLE, Int.reduceAdd, Int.reduceSub, Int.reduceNeg, Int.reduceToNat, Int.reduceEq, reduceCtorEq, norm_cons, norm_nil, normB, pOwn, pSel, gcS, reach, addN, getO, live, gcH, List.map_append]
  have b2 : lp XT x451a2 x451b2 ⟨[(6, .ref 0 0 (n1.length + 1)), (25, .p (.rd 1 [[.rd 2 [[pI v, .rd 2 []]]], [.rd 2 (n1.map fun n => [pI n.1, .rd 2 (n.2.map encSI)])], [.rd 2 (n2.map fun n => [pI n.1, .rd 2 (n.2.map encSI)])]])), (26, vI 3), (27, vI 2)], [some (.pu 2 ([pI v, .rd 2 []] :: (n1.map fun n => [pI n.1, .rd 2 (n.2.map encSI)])))], 0⟩ = some (.exit 2, ⟨[(6, .ref 0 0 (n1.length + n2.length + 1))], [some (.pu 2 ([pI v, .rd 2 []] :: ((n1.map fun n => [pI n.1, .rd 2 (n.2.map encSI)]) ++ (n2.map fun n => [pI n.1, .rd 2 (n.2.map encSI)]))))], 0⟩) := by
    rw [lp_nx]; conv => lhs; arg 1; unfold x451b2
    have e1 : n1.length + 1 + n2.length = n1.length + n2.length + 1 := by omega
    have hm3 : n1.length + n2.length + 1 ≤ 1073741824 := by omega
    simp only [↓sxP, sxQ, xai, xgo, xop, xG, AOp.touched, oldX, nwX, newX, xo, xput, refX, xbin, xint, loadP, loadX, ofC, xcells, xagg, Nat.blt, Value.oneCell', refsO, okGc, renO, rI, coX, Option.isSome, outS, outT, resX, tupX, lend1, lend0, scalX, xsb, pvX, zeroX, spliceG, xapp, xappP, xrd, eqP1, xstr, zpv, Nat.beq, Nat.ble, ↓reduceIte, Nat.reduceAdd, Nat.reduceLeDiff, Nat.reduceBEq, Nat.reduceEqDiff, Nat.reduceLT, Nat.reduceSub, Nat.reduceMul, Int.reduceLT, Int.reduceLE, Int.reduceAdd, Int.reduceSub, Int.reduceNeg, Int.reduceToNat, Int.reduceEq, reduceCtorEq, norm_cons, norm_nil, normB, pOwn, pSel, gcS, reach, addN, getO, live, gcH, ↓xapp_nde, xappQ, maxEl, e1, hm3, List.set, w3, List.map_append, x451a2n, b3]
  have b1 : lp XT x451a2 x451b2 ⟨[(6, .ref 0 0 1), (25, .p (.rd 1 [[.rd 2 [[pI v, .rd 2 []]]], [.rd 2 (n1.map fun n => [pI n.1, .rd 2 (n.2.map encSI)])], [.rd 2 (n2.map fun n => [pI n.1, .rd 2 (n.2.map encSI)])]])), (26, vI 3), (27, vI 1)], [some (.pu 2 [[pI v, .rd 2 []]])], 0⟩ = some (.exit 2, ⟨[(6, .ref 0 0 (n1.length + n2.length + 1))], [some (.pu 2 ([pI v, .rd 2 []] :: ((n1.map fun n => [pI n.1, .rd 2 (n.2.map encSI)]) ++ (n2.map fun n => [pI n.1, .rd 2 (n.2.map encSI)]))))], 0⟩) := by
    rw [lp_nx]; conv => lhs; arg 1; unfold x451b2
    have e1 : 1 + n1.length = n1.length + 1 := by omega
    have hm3 : n1.length + 1 ≤ 1073741824 := by omega
    simp only [↓sxP, sxQ, xai, xgo, xop, xG, AOp.touched, oldX, nwX, newX, xo, xput, refX, xbin, xint, loadP, loadX, ofC, xcells, xagg, Nat.blt, Value.oneCell', refsO, okGc, renO, rI, coX, Option.isSome, outS, outT, resX, tupX, lend1, lend0, scalX, xsb, pvX, zeroX, spliceG, xapp, xappP, xrd, eqP1, xstr, zpv, Nat.beq, Nat.ble, ↓reduceIte, Nat.reduceAdd, Nat.reduceLeDiff, Nat.reduceBEq, Nat.reduceEqDiff, Nat.reduceLT, Nat.reduceSub, Nat.reduceMul, Int.reduceLT, Int.reduceLE, Int.reduceAdd, Int.reduceSub, Int.reduceNeg, Int.reduceToNat, Int.reduceEq, reduceCtorEq, norm_cons, norm_nil, normB, pOwn, pSel, gcS, reach, addN, getO, live, gcH, ↓xapp_nde, xappQ, maxEl, e1, hm3, List.set, w2, List.map_append, x451a2n, b2]
  have b0 : lp XT x451a2 x451b2 ⟨[(6, .ref 0 0 0), (25, .p (.rd 1 [[.rd 2 [[pI v, .rd 2 []]]], [.rd 2 (n1.map fun n => [pI n.1, .rd 2 (n.2.map encSI)])], [.rd 2 (n2.map fun n => [pI n.1, .rd 2 (n.2.map encSI)])]])), (26, vI 3), (27, vI 0)], [some (.pu 2 [])], 0⟩ = some (.exit 2, ⟨[(6, .ref 0 0 (n1.length + n2.length + 1))], [some (.pu 2 ([pI v, .rd 2 []] :: ((n1.map fun n => [pI n.1, .rd 2 (n.2.map encSI)]) ++ (n2.map fun n => [pI n.1, .rd 2 (n.2.map encSI)]))))], 0⟩) := by
    rw [lp_nx]; conv => lhs; arg 1; unfold x451b2
    simp only [↓sxP, sxQ, xai, xgo, xop, xG, AOp.touched, oldX, nwX, newX, xo, xput, refX, xbin, xint, loadP, loadX, ofC, xcells, xagg, Nat.blt, Value.oneCell', refsO, okGc, renO, rI, coX, Option.isSome, outS, outT, resX, tupX, lend1, lend0, scalX, xsb, pvX, zeroX, spliceG, xapp, xappP, xrd, eqP1, xstr, zpv, Nat.beq, Nat.ble, ↓reduceIte, Nat.reduceAdd, Nat.reduceLeDiff, Nat.reduceBEq, Nat.reduceEqDiff, Nat.reduceLT, Nat.reduceSub, Nat.reduceMul, Int.reduceLT, Int.reduceLE, Int.reduceAdd, Int.reduceSub, Int.reduceNeg, Int.reduceToNat, Int.reduceEq, reduceCtorEq, norm_cons, norm_nil, normB, pOwn, pSel, gcS, reach, addN, getO, live, gcH, maxEl, List.set, w1, List.mem_singleton, forall_eq, x451a2n, b1]
  have ht : ([pI v, .rd 2 []] :: ((n1.map fun n => [pI n.1, .rd 2 (n.2.map encSI)]) ++ (n2.map fun n => [pI n.1, .rd 2 (n.2.map encSI)]))).take (n1.length + n2.length + 1) = [pI v, .rd 2 []] :: ((n1.map fun n => [pI n.1, .rd 2 (n.2.map encSI)]) ++ (n2.map fun n => [pI n.1, .rd 2 (n.2.map encSI)])) := List.take_of_length_le (by simp)
  unfold f451 x451
  simp only [↓sxP, sxQ, xai, xgo, xop, xG, AOp.touched, oldX, nwX, newX, xo, xput, refX, xbin, xint, loadP, loadX, ofC, xcells, xagg, Nat.blt, Value.oneCell', refsO, okGc, renO, rI, coX, Option.isSome, outS, outT, resX, tupX, lend1, lend0, scalX, xsb, pvX, zeroX, spliceG, xapp, xappP, xrd, eqP1, xstr, zpv, Nat.beq, Nat.ble, ↓reduceIte, Nat.reduceAdd, Nat.reduceLeDiff, Nat.reduceBEq, Nat.reduceEqDiff, Nat.reduceLT, Nat.reduceSub, Nat.reduceMul, Int.reduceLT, Int.reduceLE, Int.reduceAdd, Int.reduceSub, Int.reduceNeg, Int.reduceToNat, Int.reduceEq, reduceCtorEq, norm_cons, norm_nil, normB, pOwn, pSel, gcS, reach, addN, getO, live, gcH, maxEl, x451a1n]
  erw [a0]
  simp only [↓sxP, sxQ, xai, xgo, xop, xG, AOp.touched, oldX, nwX, newX, xo, xput, refX, xbin, xint, loadP, loadX, ofC, xcells, xagg, Nat.blt, Value.oneCell', refsO, okGc, renO, rI, coX, Option.isSome, outS, outT, resX, tupX, lend1, lend0, scalX, xsb, pvX, zeroX, spliceG, xapp, xappP, xrd, eqP1, xstr, zpv, Nat.beq, Nat.ble, ↓reduceIte, Nat.reduceAdd, Nat.reduceLeDiff, Nat.reduceBEq, Nat.reduceEqDiff, Nat.reduceLT, Nat.reduceSub, Nat.reduceMul, Int.reduceLT, Int.reduceLE, Int.reduceAdd, Int.reduceSub, Int.reduceNeg, Int.reduceToNat, Int.reduceEq, reduceCtorEq, norm_cons, norm_nil, normB, pOwn, pSel, gcS, reach, addN, getO, live, gcH, maxEl, P456, k456, x451a2n]
  erw [b0]
  simp only [↓sxP, sxQ, xai, xgo, xop, xG, AOp.touched, oldX, nwX, newX, xo, xput, refX, xbin, xint, loadP, loadX, ofC, xcells, xagg, Nat.blt, Value.oneCell', refsO, okGc, renO, rI, coX, Option.isSome, outS, outT, resX, tupX, lend1, lend0, scalX, xsb, pvX, zeroX, spliceG, xapp, xappP, xrd, eqP1, xstr, zpv, Nat.beq, Nat.ble, ↓reduceIte, Nat.reduceAdd, Nat.reduceLeDiff, Nat.reduceBEq, Nat.reduceEqDiff, Nat.reduceLT, Nat.reduceSub, Nat.reduceMul, Int.reduceLT, Int.reduceLE, Int.reduceAdd, Int.reduceSub, Int.reduceNeg, Int.reduceToNat, Int.reduceEq, reduceCtorEq, norm_cons, norm_nil, normB, pOwn, pSel, gcS, reach, addN, getO, live, gcH, maxEl, ht, List.length_append, Nat.le_refl, List.map_append]
end Go.Abs

namespace Go.Abs
open Go
set_option linter.unusedSimpArgs false
set_option maxHeartbeats 16000000
set_option maxRecDepth 8000

abbrev seO (w : List Int) (e : List (List Int)) (m n : Nat) (left : Int) : XObj := .mx 4 [[.p (.rd 1 (w.map encI)), .p (.rd 1 (e.map fun l => [PV.rd 1 (l.map encI)])), .ref m 0 n, vI left]]

theorem set4 {α : Type} {Y : List α} {a m : Nat} (hne : a ≠ m) (A A' M M' : α) : (((Y.set a A).set m M).set a A').set m M' = (Y.set a A').set m M' := by
  rw [List.set_comm M A' hne.symm, List.set_set, List.set_set]

theorem prv_cnt (w : List Int) (e : List (List Int)) : ∀ (f : Nat) (mk : List Int) (b left : Int), (prv w e f mk b left).1.1.length + 1 ≤ 2 ^ f
  | 0, _, _, _ => Nat.le_refl _
  | f + 1, mk, b, left => by
    have hp := Nat.one_le_two_pow (n := f)
    rw [Nat.pow_succ]
    simp only [prv]
    split
    · simp only [List.length_nil]; omega
    · split
      · simp only [List.length_cons, List.length_nil]; omega
      · split
        · simp only [List.length_cons, List.length_nil]; omega
        · split
          · simp only [List.length_cons, List.length_nil]; omega
          · split
            · simp only [List.length_nil]; omega
            · generalize brO mk e (List.replicate mk.length 0) (-1) = v
              have k1 := prv_cnt w e f (mk.set v.toNat 1) (IntKind.i64.wrap (b - w.getD v.toNat 0)) (IntKind.i64.wrap (left - 1))
              cases hq : prv w e f (mk.set v.toNat 1) (IntKind.i64.wrap (b - w.getD v.toNat 0)) (IntKind.i64.wrap (left - 1)) with
              | mk x y =>
                obtain ⟨a, er⟩ := x
                obtain ⟨q, l1⟩ := y
                rw [hq] at k1
                simp only at k1 ⊢
                split
                · simp only [List.length_nil]; omega
                · have k2 := prv_cnt w e f (q.set v.toNat 2) b l1
                  cases hq2 : prv w e f (q.set v.toNat 2) b l1 with
                  | mk x y =>
                    obtain ⟨a', er'⟩ := x
                    obtain ⟨q', l2⟩ := y
                    rw [hq2] at k2
                    simp only at k2 ⊢
                    split
                    · simp only [List.length_nil]; omega
                    · simp only [List.length_cons, List.length_append]; omega

theorem call439 (w : List Int) (e : List (List Int)) (hw : w.length ≤ 1048576) (he : e.length ≤ 1048576) (hm : ∀ l ∈ e, l.length ≤ 1048576) (a m : Nat) : ∀ (f : Nat) (X : XHeap) (mk : List Int) (b left : Int), nz mk < f →
    closedX X = true → X[a]? = some (some (seO w e m mk.length left)) → X[m]? = some (some (.pu 1 (mk.map encI))) → w.length = mk.length → (∀ l ∈ e, ∀ v ∈ l, 0 ≤ v ∧ v.toNat < mk.length) → 2 ^ f ≤ 1048576 →
    call XT 439 [.ptr a 0 0, vI b] X = some (.p (.tup [.rd 2 ((prv w e f mk b left).1.1.map fun n => [pI n.1, .rd 2 (n.2.map encSI)]), pI (prv w e f mk b left).1.2]),
      (X.set a (some (seO w e m mk.length (prv w e f mk b left).2.2))).set m (some (.pu 1 ((prv w e f mk b left).2.1.map encI)))) := by
  intro f
  induction f with
  | zero => intro X mk b left h; omega
  | succ f ih =>
    intro X mk b left h1 hX h3 h4 h5 hv h6
    have k443 := call443 hX h3 h4
    have hal := live_lt (live_get h3)
    have hml := live_lt (live_get h4)
    have hne : a ≠ m := fun h => by subst h; rw [h3] at h4; injection h4 with h4; injection h4 with h4; cases h4
    have hlm := live_get h4
    have hYc : closedX (X.set a (some (seO w e m mk.length (IntKind.i64.wrap (left - 1))))) = true := closed_set hX (by simp only [refsO, refsLL, refsL, refsV, List.append_nil, List.nil_append, List.all_cons, List.all_nil, hlm, Bool.and_self])
    have hlen : X.length = (X.set a (some (seO w e m mk.length (IntKind.i64.wrap (left - 1))))).length := by simp
    have hx : ∀ A, X.set a A = (X.set a (some (seO w e m mk.length (IntKind.i64.wrap (left - 1))))).set a A := fun A => by rw [List.set_set]
    have y3 : (X.set a (some (seO w e m mk.length (IntKind.i64.wrap (left - 1)))))[a]? = some (some (seO w e m mk.length (IntKind.i64.wrap (left - 1)))) := List.getElem?_set_self hal
    have y4 : (X.set a (some (seO w e m mk.length (IntKind.i64.wrap (left - 1)))))[m]? = some (some (.pu 1 (mk.map encI))) := by rw [List.getElem?_set_ne hne]; exact h4
    rw [hx]
    generalize hl1 : IntKind.i64.wrap (left - 1) = l1 at *
    generalize X.set a (some (seO w e m mk.length l1)) = Y at *
    have hya := live_lt (live_get y3)
    have hym := live_lt (live_get y4)
    have y1 : (Y.set a (some (seO w e m mk.length l1))).set m (some (.pu 1 (mk.map encI))) = Y := by
      have e1 : Y.set a (some (seO w e m mk.length l1)) = Y := by
        have := (List.getElem?_eq_some_iff.1 y3).2
        rw [← this, List.set_getElem_self]
      have e2 : Y.set m (some (.pu 1 (mk.map encI))) = Y := by
        have := (List.getElem?_eq_some_iff.1 y4).2
        rw [← this, List.set_getElem_self]
      rw [e1, e2]
    have hg := gc_rules hYc
    have hs' := gc_same hYc
    have ho := old_rules (live_get y3)
    have ho2 : Nat.ble (a + 1) Y.length = true := ho.2.1
    have y3' := fun N => get_appL y3 N
    have y4' := fun N => get_appL y4 N
    refine call_impure (F := f439) T439 rfl rfl ?_
    unfold f439 x439
    by_cases c0 : 0 ≤ l1
    · by_cases c1 : b ≤ 0
      · have hr : prv w e (f + 1) mk b left = (([(-1, [])], 0), (mk, l1)) := by simp only [prv, hl1]; rw [if_neg (fun h => h c0), if_pos c1]
        rw [hr]
        simp only [y1]
        simp only [↓sxP, sxQ, xai, xgo, xop, xG, AOp.touched, oldX, nwX, newX, xo, xput, refX, xbin, xint, loadP, loadX, ofC, xcells, xagg, Nat.blt, Value.oneCell', refsO, okGc, renO, rI, coX, Option.isSome, outS, outT, resX, tupX, lend1, lend0, scalX, xsb, pvX, zeroX, spliceG, xapp, xappP, xrd, eqP1, xstr, zpv, Nat.beq, Nat.ble, ↓reduceIte, Nat.reduceAdd, Nat.reduceLeDiff, Nat.reduceBEq, Nat.reduceEqDiff, Nat.reduceLT, Nat.reduceSub, Nat.reduceMul, Int.reduceLT, Int.reduceLE, Int.reduceAdd, Int.reduceSub, Int.reduceNeg, Int.reduceToNat, Int.reduceEq, reduceCtorEq, norm_cons, norm_nil, normB, pOwn, pSel, reach, addN, getO, live, ble_self, ble_add, blt_self, blt_add, beq_self, beq_add, beq_addr, beq_addl, get_appk, get_appz, set_appk, set_appz, len_app, List.append_assoc, List.cons_append, ble_s1, ble_s2, hlen, P443, k443, c0, c1, hs', hg, ho, ho2, y3', y4']
      · have k444 := call444 hYc y3 y4 he hm hv
        by_cases c2 : deadM mk e = true
        · have hr : prv w e (f + 1) mk b left = (([(-1, [])], 0), (mk, l1)) := by simp only [prv, hl1]; rw [if_neg (fun h => h c0), if_neg c1, if_pos c2]
          rw [hr]
          simp only [y1]
          simp only [↓sxP, sxQ, xai, xgo, xop, xG, AOp.touched, oldX, nwX, newX, xo, xput, refX, xbin, xint, loadP, loadX, ofC, xcells, xagg, Nat.blt, Value.oneCell', refsO, okGc, renO, rI, coX, Option.isSome, outS, outT, resX, tupX, lend1, lend0, scalX, xsb, pvX, zeroX, spliceG, xapp, xappP, xrd, eqP1, xstr, zpv, Nat.beq, Nat.ble, ↓reduceIte, Nat.reduceAdd, Nat.reduceLeDiff, Nat.reduceBEq, Nat.reduceEqDiff, Nat.reduceLT, Nat.reduceSub, Nat.reduceMul, Int.reduceLT, Int.reduceLE, Int.reduceAdd, Int.reduceSub, Int.reduceNeg, Int.reduceToNat, Int.reduceEq, reduceCtorEq, norm_cons, norm_nil, normB, pOwn, pSel, reach, addN, getO, live, ble_self, ble_add, blt_self, blt_add, beq_self, beq_add, beq_addr, beq_addl, get_appk, get_appz, set_appk, set_appz, len_app, List.append_assoc, List.cons_append, ble_s1, ble_s2, hlen, P443, k443, c0, c1, P444, k444, c2, hs', hg, ho, ho2, y3', y4']
        · have c2' : deadM mk e = false := by simpa using c2
          have k438 := call438 hYc y3 y4 h5 hw he hm hv
          by_cases c3 : b ≤ (packR mk e 0 w [] 0).2
          · have hr : prv w e (f + 1) mk b left = (([(-1, toI (packR mk e 0 w [] 0).1)], 0), (mk, l1)) := by simp only [prv, hl1]; rw [if_neg (fun h => h c0), if_neg c1, if_neg c2, if_pos c3]
            rw [hr]
            simp only [y1, List.map_cons, List.map_nil, toI_enc]
            simp only [↓sxP, sxQ, xai, xgo, xop, xG, AOp.touched, oldX, nwX, newX, xo, xput, refX, xbin, xint, loadP, loadX, ofC, xcells, xagg, Nat.blt, Value.oneCell', refsO, okGc, renO, rI, coX, Option.isSome, outS, outT, resX, tupX, lend1, lend0, scalX, xsb, pvX, zeroX, spliceG, xapp, xappP, xrd, eqP1, xstr, zpv, Nat.beq, Nat.ble, ↓reduceIte, Nat.reduceAdd, Nat.reduceLeDiff, Nat.reduceBEq, Nat.reduceEqDiff, Nat.reduceLT, Nat.reduceSub, Nat.reduceMul, Int.reduceLT, Int.reduceLE, Int.reduceAdd, Int.reduceSub, Int.reduceNeg, Int.reduceToNat, Int.reduceEq, reduceCtorEq, norm_cons, norm_nil, normB, pOwn, pSel, reach, addN, getO, live, ble_self, ble_add, blt_self, blt_add, beq_self, beq_add, beq_addr, beq_addl, get_appk, get_appz, set_appk, set_appz, len_app, List.append_assoc, List.cons_append, ble_s1, ble_s2, hlen, P443, k443, c0, c1, P444, k444, c2', P438, k438, c3, hs', hg, ho, ho2, y3', y4', take_lenM]
          · generalize hSd : some (XObj.pu 2 ((packR mk e 0 w [] 0).1.map encS)) = S at k438
            have hSr : ∀ L : Nat → Bool, (refsO S).all L = true := fun L => by rw [← hSd]; rfl
            have k445 := call445 (closed_app (N := [S]) hYc fun o ho => by
              simp only [List.mem_cons, List.not_mem_nil, or_false] at ho
              subst ho; exact hSr _) (get_appL y3 _) (get_appL y4 _) (by omega) he hm hv
            have hbs := branch_spec hv c2'
            by_cases c4 : brO mk e (List.replicate mk.length 0) (-1) < 0
            · have hr : prv w e (f + 1) mk b left = (([], 11), (mk, l1)) := by simp only [prv, hl1]; rw [if_neg (fun h => h c0), if_neg c1, if_neg c2, if_neg c3, if_pos c4]
              rw [hr]
              simp only [y1, List.map_cons, List.map_nil, toI_enc]
              simp only [↓sxP, sxQ, xai, xgo, xop, xG, AOp.touched, oldX, nwX, newX, xo, xput, refX, xbin, xint, loadP, loadX, ofC, xcells, xagg, Nat.blt, Value.oneCell', refsO, okGc, renO, rI, coX, Option.isSome, outS, outT, resX, tupX, lend1, lend0, scalX, xsb, pvX, zeroX, spliceG, xapp, xappP, xrd, eqP1, xstr, zpv, Nat.beq, Nat.ble, ↓reduceIte, Nat.reduceAdd, Nat.reduceLeDiff, Nat.reduceBEq, Nat.reduceEqDiff, Nat.reduceLT, Nat.reduceSub, Nat.reduceMul, Int.reduceLT, Int.reduceLE, Int.reduceAdd, Int.reduceSub, Int.reduceNeg, Int.reduceToNat, Int.reduceEq, reduceCtorEq, norm_cons, norm_nil, normB, pOwn, pSel, reach, addN, getO, live, ble_self, ble_add, blt_self, blt_add, beq_self, beq_add, beq_addr, beq_addl, get_appk, get_appz, set_appk, set_appz, len_app, List.append_assoc, List.cons_append, ble_s1, ble_s2, hlen, P443, k443, c0, c1, P444, k444, c2', P438, k438, c3, P445, k445, c4, hs', hg, ho, ho2, y3', y4', take_lenM]
            · have hop := hbs.1.resolve_left c4
              have hprv : prv w e (f + 1) mk b left = (match prv w e f (mk.set (brO mk e (List.replicate mk.length 0) (-1)).toNat 1) (IntKind.i64.wrap (b - w.getD (brO mk e (List.replicate mk.length 0) (-1)).toNat 0)) l1 with
                  | ((a, er), (q, l1)) => if er ≠ 0 then (([], er), (q, l1)) else
                    match prv w e f (q.set (brO mk e (List.replicate mk.length 0) (-1)).toNat 2) b l1 with
                    | ((a', er'), (q', l2)) => if er' ≠ 0 then (([], er'), (q', l2)) else (((brO mk e (List.replicate mk.length 0) (-1), []) :: (a ++ a'), 0), (q'.set (brO mk e (List.replicate mk.length 0) (-1)).toNat 0, l2))) := by
                simp only [prv, hl1]; rw [if_neg (fun h => h c0), if_neg c1, if_neg c2, if_neg c3, if_neg c4]
              generalize hbv : brO mk e (List.replicate mk.length 0) (-1) = v at *
              obtain ⟨b0, b1, b2⟩ := hop
              have q2 : v < (mk.length : Int) := by omega
              have q3 : mk[v.toNat]? = some (mk.getD v.toNat 0) := getD_some b1
              have q4 : w[v.toNat]? = some (w.getD v.toNat 0) := getD_some (by omega)
              have hgm : ∀ x : Int, (mk.set v.toNat x)[v.toNat]? = some x := fun x => List.getElem?_set_self b1
              have z0 : ∀ M N, (Y ++ N).set m M = (Y.set a (some (seO w e m mk.length l1))).set m M ++ N := fun M N => by
                have e1 : Y.set a (some (seO w e m mk.length l1)) = Y := by
                  have := (List.getElem?_eq_some_iff.1 y3).2
                  rw [← this, List.set_getElem_self]
                rw [e1]; exact List.set_append_left _ _ hym
              have zl : ∀ A M, ((Y.set a A).set m M).length = Y.length := fun A M => by rw [List.length_set, List.length_set]
              have z1 : ∀ A M N, ((Y.set a A).set m M ++ N)[a]? = some A := fun A M N => by
                rw [List.getElem?_append_left (by rw [zl]; exact hya), List.getElem?_set_ne hne.symm]; exact List.getElem?_set_self hya
              have z2 : ∀ A M N, ((Y.set a A).set m M ++ N)[m]? = some M := fun A M N => by
                rw [List.getElem?_append_left (by rw [zl]; exact hym)]; exact List.getElem?_set_self (by simpa using hym)
              have z3 : ∀ A M N M', ((Y.set a A).set m M ++ N).set m M' = (Y.set a A).set m M' ++ N := fun A M N M' => by
                rw [List.set_append_left _ _ (by rw [zl]; exact hym), List.set_set]
              have z5 : ∀ A M N A' M', (((Y.set a A).set m M ++ N).set a A').set m M' = (Y.set a A').set m M' ++ N := fun A M N A' M' => by
                rw [List.set_append_left _ _ (by rw [zl]; exact hya), List.set_append_left _ _ (by rw [List.length_set, zl]; exact hym), set4 hne]
              have zc : ∀ (l : Int) (q : List Int), closedX ((Y.set a (some (seO w e m mk.length l))).set m (some (.pu 1 (q.map encI)))) = true := fun l q => closed_pu (closed_set hYc (by
                have := live_get y4
                simp only [refsO, refsLL, refsL, refsV, List.append_nil, List.nil_append, List.all_cons, List.all_nil, this, Bool.and_self])) 1 _
              have zd : ∀ (l : Int) (q : List Int), closedX ((Y.set a (some (seO w e m mk.length l))).set m (some (.pu 1 (q.map encI))) ++ [S]) = true := fun l q => closed_app (zc l q) fun o ho => by
                simp only [List.mem_cons, List.not_mem_nil, or_false] at ho
                subst ho; exact hSr _
              have zg := fun l q => gc_rules (zc l q)
              simp only [List.length_set] at zg
              have hz1 : nz (mk.set v.toNat 1) + 1 = nz mk := nz_set (by omega) mk v.toNat (by rw [q3, b2])
              have hz2 : nz (mk.set v.toNat 2) + 1 = nz mk := nz_set (by omega) mk v.toNat (by rw [q3, b2])
              have hpf : 2 ^ f ≤ 1048576 := by rw [Nat.pow_succ] at h6; omega
              have n1 := prv_cnt w e f (mk.set v.toNat 1) (IntKind.i64.wrap (b - w.getD v.toNat 0)) l1
              have i1 := ih ((Y.set a (some (seO w e m mk.length l1))).set m (some (.pu 1 ((mk.set v.toNat 1).map encI))) ++ [S]) (mk.set v.toNat 1) (IntKind.i64.wrap (b - w.getD v.toNat 0)) l1 (by omega) (zd _ _) (by rw [List.length_set]; exact z1 _ _ _) (z2 _ _ _) (by rw [List.length_set]; exact h5) (by rw [List.length_set]; exact hv) hpf
              have hs1 := prv_same w e f (mk.set v.toNat 1) (IntKind.i64.wrap (b - w.getD v.toNat 0)) l1 (by rw [List.length_set]; exact hv)
              rw [z5, List.length_set] at i1
              cases hq : prv w e f (mk.set v.toNat 1) (IntKind.i64.wrap (b - w.getD v.toNat 0)) l1 with
              | mk x y =>
                obtain ⟨nd1, er⟩ := x
                obtain ⟨qm, l2⟩ := y
                rw [hq] at i1 hprv hs1 n1
                simp only at i1 hprv hs1 n1
                by_cases c5 : er = 0
                · have hqm := hs1 c5
                  subst hqm
                  rw [if_neg (fun h => h c5), List.set_set] at hprv
                  have i2 := ih ((Y.set a (some (seO w e m mk.length l2))).set m (some (.pu 1 ((mk.set v.toNat 2).map encI))) ++ [S]) (mk.set v.toNat 2) b l2 (by omega) (zd _ _) (by rw [List.length_set]; exact z1 _ _ _) (z2 _ _ _) (by rw [List.length_set]; exact h5) (by rw [List.length_set]; exact hv) hpf
                  have hs2 := prv_same w e f (mk.set v.toNat 2) b l2 (by rw [List.length_set]; exact hv)
                  rw [z5, List.length_set] at i2
                  have n2 := prv_cnt w e f (mk.set v.toNat 2) b l2
                  cases hq2 : prv w e f (mk.set v.toNat 2) b l2 with
                  | mk x y =>
                    obtain ⟨nd2, er2⟩ := x
                    obtain ⟨qm2, l3⟩ := y
                    rw [hq2] at i2 hprv hs2 n2
                    simp only at i2 hprv hs2 n2
                    by_cases c6 : er2 = 0
                    · have hqm2 := hs2 c6
                      subst hqm2
                      rw [if_neg (fun h => h c6), List.set_set] at hprv
                      rw [hprv]
                      have k451 := fun X => call451 v nd1 nd2 (by rw [Nat.pow_succ] at h6; omega) X
                      subst c5; subst c6
                      simp only [↓sxP, sxQ, xai, xgo, xop, xG, AOp.touched, oldX, nwX, newX, xo, xput, refX, xbin, xint, loadP, loadX, ofC, xcells, xagg, Nat.blt, Value.oneCell', refsO, okGc, renO, rI, coX, Option.isSome, outS, outT, resX, tupX, lend1, lend0, scalX, xsb, pvX, zeroX, spliceG, xapp, xappP, xrd, eqP1, xstr, zpv, Nat.beq, Nat.ble, ↓reduceIte, Nat.reduceAdd, Nat.reduceLeDiff, Nat.reduceBEq, Nat.reduceEqDiff, Nat.reduceLT, Nat.reduceSub, Nat.reduceMul, Int.reduceLT, Int.reduceLE, Int.reduceAdd, Int.reduceSub, Int.reduceNeg, Int.reduceToNat, Int.reduceEq, reduceCtorEq, norm_cons, norm_nil, normB, pOwn, pSel, reach, addN, getO, live, ble_self, ble_add, blt_self, blt_add, beq_self, beq_add, beq_addr, beq_addl, get_appk, get_appz, set_appk, set_appz, len_app, List.append_assoc, List.cons_append, ble_s1, ble_s2, hlen, P443, k443, c0, c1, P444, k444, c2', P438, k438, c3, P445, k445, c4, hs', hg, ho, ho2, y3, y4, y3', y4', take_lenM, b0, q2, q3, q4, hgm, encI, splice, map_setI, z0, z1, z2, z3, zg, List.length_set, List.set_set, P439, i1, i2, P451, k451, List.map_append]
                    · rw [if_pos c6] at hprv
                      rw [hprv]
                      subst c5
                      simp only [↓sxP, sxQ, xai, xgo, xop, xG, AOp.touched, oldX, nwX, newX, xo, xput, refX, xbin, xint, loadP, loadX, ofC, xcells, xagg, Nat.blt, Value.oneCell', refsO, okGc, renO, rI, coX, Option.isSome, outS, outT, resX, tupX, lend1, lend0, scalX, xsb, pvX, zeroX, spliceG, xapp, xappP, xrd, eqP1, xstr, zpv, Nat.beq, Nat.ble, ↓reduceIte, Nat.reduceAdd, Nat.reduceLeDiff, Nat.reduceBEq, Nat.reduceEqDiff, Nat.reduceLT, Nat.reduceSub, Nat.reduceMul, Int.reduceLT, Int.reduceLE, Int.reduceAdd, Int.reduceSub, Int.reduceNeg, Int.reduceToNat, Int.reduceEq, reduceCtorEq, norm_cons, norm_nil, normB, pOwn, pSel, reach, addN, getO, live, ble_self, ble_add, blt_self, blt_add, beq_self, beq_add, beq_addr, beq_addl, get_appk, get_appz, set_appk, set_appz, len_app, List.append_assoc, List.cons_append, ble_s1, ble_s2, hlen, P443, k443, c0, c1, P444, k444, c2', P438, k438, c3, P445, k445, c4, c6, hs', hg, ho, ho2, y3, y4, y3', y4', take_lenM, b0, q2, q3, q4, hgm, encI, splice, map_setI, z0, z1, z2, z3, zg, List.length_set, List.set_set, P439, i1, i2]
                · rw [if_pos c5] at hprv
                  rw [hprv]
                  simp only [↓sxP, sxQ, xai, xgo, xop, xG, AOp.touched, oldX, nwX, newX, xo, xput, refX, xbin, xint, loadP, loadX, ofC, xcells, xagg, Nat.blt, Value.oneCell', refsO, okGc, renO, rI, coX, Option.isSome, outS, outT, resX, tupX, lend1, lend0, scalX, xsb, pvX, zeroX, spliceG, xapp, xappP, xrd, eqP1, xstr, zpv, Nat.beq, Nat.ble, ↓reduceIte, Nat.reduceAdd, Nat.reduceLeDiff, Nat.reduceBEq, Nat.reduceEqDiff, Nat.reduceLT, Nat.reduceSub, Nat.reduceMul, Int.reduceLT, Int.reduceLE, Int.reduceAdd, Int.reduceSub, Int.reduceNeg, Int.reduceToNat, Int.reduceEq, reduceCtorEq, norm_cons, norm_nil, normB, pOwn, pSel, reach, addN, getO, live, ble_self, ble_add, blt_self, blt_add, beq_self, beq_add, beq_addr, beq_addl, get_appk, get_appz, set_appk, set_appz, len_app, List.append_assoc, List.cons_append, ble_s1, ble_s2, hlen, P443, k443, c0, c1, P444, k444, c2', P438, k438, c3, P445, k445, c4, c5, hs', hg, ho, ho2, y3, y4, y3', y4', take_lenM, b0, q2, q3, q4, hgm, encI, splice, map_setI, z0, z1, z2, z3, zg, List.length_set, List.set_set, P439, i1]
    · have hr : prv w e (f + 1) mk b left = (([], 13), (mk, l1)) := by simp only [prv, hl1]; rw [if_pos c0]
      rw [hr]
      simp only [y1]
      simp only [↓sxP, sxQ, xai, xgo, xop, xG, AOp.touched, oldX, nwX, newX, xo, xput, refX, xbin, xint, loadP, loadX, ofC, xcells, xagg, Nat.blt, Value.oneCell', refsO, okGc, renO, rI, coX, Option.isSome, outS, outT, resX, tupX, lend1, lend0, scalX, xsb, pvX, zeroX, spliceG, xapp, xappP, xrd, eqP1, xstr, zpv, Nat.beq, Nat.ble, ↓reduceIte, Nat.reduceAdd, Nat.reduceLeDiff, Nat.reduceBEq, Nat.reduceEqDiff, Nat.reduceLT, Nat.reduceSub, Nat.reduceMul, Int.reduceLT, Int.reduceLE, Int.reduceAdd, Int.reduceSub, Int.reduceNeg, Int.reduceToNat, Int.reduceEq, reduceCtorEq, norm_cons, norm_nil, normB, pOwn, pSel, reach, addN, getO, live, ble_self, ble_add, blt_self, blt_add, beq_self, beq_add, beq_addr, beq_addl, get_appk, get_appz, set_appk, set_appz, len_app, List.append_assoc, List.cons_append, ble_s1, ble_s2, hlen, P443, k443, c0, hs', hg, ho, ho2, y3', y4']
end Go.Abs

namespace Go.Abs
open Go

theorem amt_gen (mk room : List Int) (h0 : ∀ v, mk.getD v 0 = 0 → 0 ≤ room.getD v 0) : ∀ (l : List Int) (acc : Int), 0 ≤ acc →
    0 ≤ amt mk room l acc ∧ amt mk room l acc ≤ acc ∧ ∀ v ∈ l, mk.getD v.toNat 0 = 0 → amt mk room l acc ≤ room.getD v.toNat 0
  | [], acc, h => ⟨h, Int.le_refl _, fun v hv => by cases hv⟩
  | v :: r, acc, h => by
    simp only [amt]
    by_cases hz : mk.getD v.toNat 0 = 0
    · have hr := h0 v.toNat hz
      rw [if_pos hz]
      obtain ⟨k1, k2, k3⟩ := amt_gen mk room h0 r (min acc (room.getD v.toNat 0)) (by omega)
      refine ⟨k1, by omega, fun u hu hu0 => ?_⟩
      rcases List.mem_cons.1 hu with rfl | hu
      · omega
      · exact k3 u hu hu0
    · rw [if_neg hz]
      obtain ⟨k1, k2, k3⟩ := amt_gen mk room h0 r acc h
      refine ⟨k1, k2, fun u hu hu0 => ?_⟩
      rcases List.mem_cons.1 hu with rfl | hu
      · exact absurd hu0 hz
      · exact k3 u hu hu0

theorem subR_gen (am : Int) (ha : 0 ≤ am) (hb : am ≤ 1000000) : ∀ (l room : List Int) (last n : Int), asc n last l = true → -1 ≤ last → n ≤ room.length → (∀ v ∈ l, -1000000000000000 ≤ room.getD v.toNat 0 ∧ room.getD v.toNat 0 ≤ 1000000000000000) →
    ∀ u : Nat, (subR am l room).getD u 0 = room.getD u 0 - if (u : Int) ∈ l then am else 0
  | [], room, _, _, _, _, _, _, u => by simp [subR]
  | v :: r, room, last, n, h, hl, hn, h0, u => by
    simp only [asc, Bool.and_eq_true, decide_eq_true_eq] at h
    obtain ⟨⟨h1, h2⟩, h3⟩ := h
    have hv := h0 v (List.mem_cons_self ..)
    have hw : IntKind.i64.wrap (room.getD v.toNat 0 - am) = room.getD v.toNat 0 - am := wrap64 _ (by omega) (by omega)
    have hnm : v ∉ r := fun hm => by have := asc_mem n r v h3 v hm; omega
    simp only [subR, hw]
    rw [subR_gen am ha hb r _ v n h3 (by omega) (by simpa using hn) (fun k hk => by
      have hne : ¬ (v.toNat = k.toNat ∧ v.toNat < room.length) := fun e => by have := asc_mem n r v h3 k hk; omega
      rw [getD_set, if_neg hne]; exact h0 k (List.mem_cons_of_mem _ hk)) u, getD_set]
    by_cases e : v.toNat = u
    · have hu : (u : Int) = v := by omega
      rw [if_pos ⟨e, by omega⟩, hu, if_neg hnm, if_pos (List.mem_cons_self ..), e]; omega
    · have hu : ¬ (u : Int) = v := by omega
      rw [if_neg (fun h => e h.1)]
      simp [hu]

structure PInvG (w : List Int) (e : List (List Int)) (mk : List Int) (i : Nat) (room : List Int) (out : List (Nat × Int)) (s : Int) : Prop where
  len : room.length = w.length
  bd : ∀ v, mk.getD v 0 = 0 → 0 ≤ room.getD v 0
  rb : ∀ v, -1000000 * (i : Int) ≤ room.getD v 0 ∧ room.getD v 0 ≤ 1000000
  ld : ∀ v, load (prs e out) v + room.getD v 0 = w.getD v 0
  el : ∀ y ∈ out, y.1 < e.length ∧ 1 ≤ y.2 ∧ y.2 ≤ 1000000 ∧ hasM mk (e.getD y.1 []) 1 = false
  cnt : out.length ≤ i
  sm : s = (out.map (·.2)).sum
  up : 0 ≤ s ∧ s ≤ i * 1000000

theorem packR_gen {w : List Int} {e : List (List Int)} (hv : validI w e = 0) (hl : e.length ≤ 2000) (mk : List Int) : ∀ n i room out s, i + n = e.length → PInvG w e mk i room out s →
    ∃ room', PInvG w e mk e.length room' (packR mk (e.drop i) i room out s).1 (packR mk (e.drop i) i room out s).2 := by
  intro n
  induction n with
  | zero =>
    intro i room out s h hp
    have h2 : e.drop i = [] := List.drop_of_length_le (by omega)
    have h3 : i = e.length := by omega
    simp only [h2, packR]
    exact ⟨room, h3 ▸ hp⟩
  | succ n ih =>
    intro i room out s h hp
    have hi : i < e.length := by omega
    have keep : PInvG w e mk (i + 1) room out s := by
      obtain ⟨h1, h2, h3, h4, h5, h6, h7, h8⟩ := hp
      exact ⟨h1, h2, fun v => by have := h3 v; omega, h4, h5, by omega, h7, by omega⟩
    rw [drop_cons hi]
    simp only [packR]
    by_cases c1 : hasM mk e[i] 1 = true
    · rw [if_pos c1]; exact ih (i + 1) room out s (by omega) keep
    · rw [if_neg c1]
      by_cases c2 : amt mk room e[i] 1000000 = 0
      · rw [if_pos c2]; exact ih (i + 1) room out s (by omega) keep
      · rw [if_neg c2]
        refine ih (i + 1) _ _ _ (by omega) ?_
        obtain ⟨h1, h2, h3, h4, h5, h6, h7, h8⟩ := hp
        have hok := (valid_w hv).2.2 e[i] (List.getElem_mem hi)
        obtain ⟨a1, a2, a3⟩ := amt_gen mk room h2 e[i] 1000000 (by omega)
        generalize amt mk room e[i] 1000000 = am at *
        have hasc : asc w.length (-1) e[i] = true := by simp only [okE, Bool.and_eq_true] at hok; exact hok.1
        have hg := subR_gen am a1 a2 e[i] room (-1) w.length hasc (by omega) (by omega) (fun v _ => by have := h3 v.toNat; omega)
        have he : e.getD i [] = e[i] := by simp [hi]
        have hw : IntKind.i64.wrap (s + am) = s + am := wrap64 _ (by omega) (by omega)
        refine ⟨by rw [subR_len]; exact h1, fun v hz => ?_, fun v => ?_, fun v => ?_, fun y hy => ?_, by simp; omega, ?_, ?_⟩
        · rw [hg]
          have := h2 v hz
          split
          · rename_i hm
            have := a3 v hm (by simpa using hz)
            simp only [Int.toNat_natCast] at this
            omega
          · omega
        · rw [hg]
          have := h3 v
          split <;> omega
        · rw [hg]
          have hp : prs e (out ++ [(i, am)]) = prs e out ++ [(e[i], am)] := by simp [prs, hi]
          rw [hp, load_append, load_one]
          have := h4 v
          simp only
          split <;> omega
        · rcases List.mem_append.1 hy with hy | hy
          · exact h5 y hy
          · simp only [List.mem_singleton] at hy; subst hy
            refine ⟨hi, by simp only; omega, a2, ?_⟩
            simp only [he]
            simpa using c1
        · rw [hw, h7]; simp
        · rw [hw]; omega

/-- What packing finds in a state. -/
theorem pack_state {w : List Int} {e : List (List Int)} (hv : validI w e = 0) (hl : e.length ≤ 2000) (mk : List Int) : ∃ room, PInvG w e mk e.length room (packR mk e 0 w [] 0).1 (packR mk e 0 w [] 0).2 := by
  have hw : ∀ v, 0 ≤ w.getD v 0 ∧ w.getD v 0 ≤ 1000000 := fun v => by
    by_cases h : v < w.length
    · rw [List.getD_eq_getElem?_getD, List.getElem?_eq_getElem h]
      have := (valid_w hv).1 _ (List.getElem_mem h)
      simp only [Option.getD_some]; omega
    · rw [List.getD_eq_getElem?_getD, List.getElem?_eq_none (by omega)]; simp
  have := packR_gen hv hl mk e.length 0 w [] 0 (by omega) ⟨rfl, fun v _ => (hw v).1, fun v => by have := hw v; omega, fun v => by simp [prs, load], fun y hy => (by cases hy), Nat.le_refl _, rfl, by omega⟩
  rwa [List.drop_zero] at this

theorem prs_toI (e : List (List Int)) : ∀ l : List (Nat × Int), (toI l).map (fun y => (e.getD y.1.toNat [], y.2)) = prs e l := fun l => by
  simp only [toI, prs, List.map_map, Function.comp_def, Int.toNat_natCast]

/-- Its shares are right in that state. -/
theorem pack_shares {w : List Int} {e : List (List Int)} (hv : validI w e = 0) (hl : e.length ≤ 2000) {mk c x : List Int} (hr : RelM w.length mk c x) {b : Int} (hb : b ≤ (packR mk e 0 w [] 0).2) :
    sharesI w e mk (toI (packR mk e 0 w [] 0).1) b = true := by
  obtain ⟨room, h⟩ := pack_state hv hl mk
  generalize (packR mk e 0 w [] 0).1 = out at *
  generalize (packR mk e 0 w [] 0).2 = s at *
  obtain ⟨h1, h2, h3, h4, h5, h6, h7, h8⟩ := h
  have hlen : (toI out).length = out.length := by simp [toI]
  have hA : ∀ (l : List (Nat × Int)) (acc : Int), (∀ y ∈ l, y.1 < e.length ∧ 1 ≤ y.2 ∧ y.2 ≤ 1000000 ∧ hasM mk (e.getD y.1 []) 1 = false) → 0 ≤ acc → acc + l.length * 1000000 ≤ 1000000000000000 → rightA e c (toI l) acc = some (acc + (l.map (·.2)).sum) := by
    intro l
    induction l with
    | nil => intro acc _ _ _; simp [rightA, toI]
    | cons y r ih =>
      intro acc hy h0 hbb
      obtain ⟨y1, y2, y3, y4⟩ := hy y (List.mem_cons_self ..)
      simp only [List.length_cons] at hbb
      have hm := meet_has hr (okE_mem ((valid_w hv).2.2 _ (List.mem_of_getElem? (get_edge y1)))).1
      rw [y4] at hm
      have hn : ¬ ((y.1 : Int) < 0 ∨ (e.length : Int) ≤ y.1 ∨ y.2 < 1 ∨ 1000000000000 < y.2 ∨ meet (e.getD (y.1 : Int).toNat []) c = true) := by
        rw [Int.toNat_natCast, ← hm]
        rintro (k | k | k | k | k)
        · omega
        · omega
        · omega
        · omega
        · cases k
      have hw : IntKind.i64.wrap (acc + y.2) = acc + y.2 := wrap64 _ (by omega) (by omega)
      have := ih (acc + y.2) (fun z hz => hy z (List.mem_cons_of_mem _ hz)) (by omega) (by omega)
      show rightA e c (((y.1 : Int), y.2) :: toI r) acc = _
      simp only [rightA]
      rw [if_neg hn, hw, this]
      simp only [List.map_cons, List.sum_cons]
      congr 1; omega
  have hRA := hA out 0 h5 (by omega) (by omega)
  rw [Int.zero_add, ← h7] at hRA
  have hz : ∀ v : Nat, (List.replicate mk.length (0 : Int)).getD v 0 = 0 := fun v => by
    rw [List.getD_eq_getElem?_getD, List.getElem?_replicate]; split <;> rfl
  have hwp : ∀ v : Nat, v < w.length → 1 ≤ w.getD v 0 := fun v h => by
    rw [List.getD_eq_getElem?_getD, List.getElem?_eq_getElem h]; exact ((valid_w hv).1 _ (List.getElem_mem h)).1
  have key := (shG_some hr (valid_w hv).2.2 (toI out) (List.replicate mk.length 0) 0 s 0 hRA (by simp [hr.len]) (fun v => by rw [hz]; omega) (by rw [hlen]; omega) (fun v h _ => by rw [hz]; have := hwp v h; omega)).1 (fun v hv0 hv1 => by
    rw [hz, ← load_S, prs_toI, Int.zero_add]
    have a := h4 v
    have b := h2 v hv1
    omega)
  unfold sharesI
  rw [if_neg (by rw [hlen]; omega), key]
  exact decide_eq_true hb
end Go.Abs

namespace Go.Abs
open Go

section
variable {w : List Int} {e : List (List Int)}

/-- One step of 'prove'. -/
theorem prv_step (f : Nat) (mk : List Int) (b left : Int) (hv : ∀ l ∈ e, ∀ v ∈ l, 0 ≤ v ∧ v.toNat < mk.length) {P : (List Nd × Int) × (List Int × Int) → Prop}
    (h0 : ¬ 0 ≤ IntKind.i64.wrap (left - 1) → P (([], 13), (mk, IntKind.i64.wrap (left - 1))))
    (h1 : 0 ≤ IntKind.i64.wrap (left - 1) → b ≤ 0 ∨ deadM mk e = true → P (([(-1, [])], 0), (mk, IntKind.i64.wrap (left - 1))))
    (h2 : 0 ≤ IntKind.i64.wrap (left - 1) → ¬ b ≤ 0 → b ≤ (packR mk e 0 w [] 0).2 → P (([(-1, toI (packR mk e 0 w [] 0).1)], 0), (mk, IntKind.i64.wrap (left - 1))))
    (h3 : 0 ≤ IntKind.i64.wrap (left - 1) → ¬ b ≤ 0 → (∀ l ∈ e, hasM mk l 1 = true) → P (([], 11), (mk, IntKind.i64.wrap (left - 1))))
    (h4 : ∀ v : Int, 0 ≤ IntKind.i64.wrap (left - 1) → ¬ b ≤ 0 → 0 ≤ v → v.toNat < mk.length → mk.getD v.toNat 0 = 0 → v ≠ -1 →
      ∀ x1, x1 = prv w e f (mk.set v.toNat 1) (IntKind.i64.wrap (b - w.getD v.toNat 0)) (IntKind.i64.wrap (left - 1)) → x1.1.2 ≠ 0 → P (([], x1.1.2), x1.2))
    (h5 : ∀ v : Int, 0 ≤ IntKind.i64.wrap (left - 1) → ¬ b ≤ 0 → 0 ≤ v → v.toNat < mk.length → mk.getD v.toNat 0 = 0 → v ≠ -1 →
      ∀ x1, x1 = prv w e f (mk.set v.toNat 1) (IntKind.i64.wrap (b - w.getD v.toNat 0)) (IntKind.i64.wrap (left - 1)) → x1.1.2 = 0 →
      ∀ x2, x2 = prv w e f (mk.set v.toNat 2) b x1.2.2 → x2.1.2 ≠ 0 → P (([], x2.1.2), x2.2))
    (h6 : ∀ v : Int, 0 ≤ IntKind.i64.wrap (left - 1) → ¬ b ≤ 0 → 0 ≤ v → v.toNat < mk.length → mk.getD v.toNat 0 = 0 → v ≠ -1 →
      ∀ x1, x1 = prv w e f (mk.set v.toNat 1) (IntKind.i64.wrap (b - w.getD v.toNat 0)) (IntKind.i64.wrap (left - 1)) → x1.1.2 = 0 →
      ∀ x2, x2 = prv w e f (mk.set v.toNat 2) b x1.2.2 → x2.1.2 = 0 → ∀ q, P (((v, []) :: (x1.1.1 ++ x2.1.1), 0), (q, x2.2.2))) :
    P (prv w e (f + 1) mk b left) := by
  simp only [prv]
  by_cases c0 : 0 ≤ IntKind.i64.wrap (left - 1)
  · rw [if_neg (fun h => h c0)]
    by_cases c1 : b ≤ 0
    · rw [if_pos c1]; exact h1 c0 (.inl c1)
    · rw [if_neg c1]
      by_cases c2 : deadM mk e = true
      · rw [if_pos c2]; exact h1 c0 (.inr c2)
      · rw [if_neg c2]
        by_cases c3 : b ≤ (packR mk e 0 w [] 0).2
        · rw [if_pos c3]; exact h2 c0 c1 c3
        · rw [if_neg c3]
          have hbs := branch_spec hv (by simpa using c2)
          by_cases c4 : brO mk e (List.replicate mk.length 0) (-1) < 0
          · rw [if_pos c4]; exact h3 c0 c1 (hbs.2 c4)
          · rw [if_neg c4]
            have hop := hbs.1.resolve_left c4
            generalize brO mk e (List.replicate mk.length 0) (-1) = v at *
            obtain ⟨b0, b1, b2⟩ := hop
            have hs1 := prv_same w e f (mk.set v.toNat 1) (IntKind.i64.wrap (b - w.getD v.toNat 0)) (IntKind.i64.wrap (left - 1)) (by rw [List.length_set]; exact hv)
            have k4 := h4 v c0 c1 b0 b1 b2 (by omega) _ rfl
            have k5 := h5 v c0 c1 b0 b1 b2 (by omega) _ rfl
            have k6 := h6 v c0 c1 b0 b1 b2 (by omega) _ rfl
            generalize prv w e f (mk.set v.toNat 1) (IntKind.i64.wrap (b - w.getD v.toNat 0)) (IntKind.i64.wrap (left - 1)) = x1 at *
            obtain ⟨⟨a, er⟩, ⟨q, l1⟩⟩ := x1
            simp only at *
            by_cases c5 : er = 0
            · rw [if_neg (fun h => h c5)]
              have hq := hs1 c5
              subst hq
              rw [List.set_set]
              have j5 := k5 c5 _ rfl
              have j6 := k6 c5 _ rfl
              generalize prv w e f (mk.set v.toNat 2) b l1 = x2 at *
              obtain ⟨⟨a', er'⟩, ⟨q', l2⟩⟩ := x2
              simp only at *
              by_cases c6 : er' = 0
              · rw [if_neg (fun h => h c6)]; exact j6 c6 _
              · rw [if_pos c6]; exact j5 c6
            · rw [if_pos c5]; exact k4 c5
  · rw [if_pos c0]; exact h0 c0

/-- Its nodes are accepted. -/
theorem prv_chk (hval : validI w e = 0) (hl : e.length ≤ 2000) : ∀ (f : Nat) (mk c x : List Int) (b left : Int), RelM w.length mk c x → (prv w e f mk b left).1.2 = 0 →
    ∀ (rest : List Nd) (f' : Nat), ((prv w e f mk b left).1.1 ++ rest).length ≤ f' → chk w e f' mk b ((prv w e f mk b left).1.1 ++ rest) = (some rest, true)
  | 0, _, _, _, _, _, _ => fun h => by simp [prv] at h
  | f + 1, mk, c, x, b, left, hr => by
    have hv : ∀ l ∈ e, ∀ v ∈ l, 0 ≤ v ∧ v.toNat < mk.length := fun l hl v hv => by
      have := (okE_mem ((valid_w hval).2.2 l hl)).1 v hv
      rw [hr.len]; exact this
    refine prv_step (P := fun r => r.1.2 = 0 → ∀ (rest : List Nd) (f' : Nat), (r.1.1 ++ rest).length ≤ f' → chk w e f' mk b (r.1.1 ++ rest) = (some rest, true)) f mk b left hv ?_ ?_ ?_ ?_ ?_ ?_ ?_
    · intro _ h; simp at h
    · intro _ hb _ rest f' hf
      cases f' with
      | zero => simp at hf
      | succ f' =>
        simp only [List.cons_append, List.nil_append, chk]
        rw [if_pos trivial]
        have : leafP w e mk b [] = true := by
          unfold leafP
          rw [if_pos (show ((([] : List (Int × Int)).length : Nat) : Int) = 0 from rfl), Bool.or_eq_true]
          exact hb.imp (fun h => decide_eq_true h) id
        rw [this]
    · intro _ hb hs _ rest f' hf
      cases f' with
      | zero => simp at hf
      | succ f' =>
        simp only [List.cons_append, List.nil_append, chk]
        rw [if_pos trivial]
        have : leafP w e mk b (toI (packR mk e 0 w [] 0).1) = true := by
          unfold leafP
          rw [if_neg]
          · exact pack_shares hval hl hr hs
          · intro h
            obtain ⟨room, hp⟩ := pack_state hval hl mk
            have h0 : (packR mk e 0 w [] 0).1 = [] := List.length_eq_zero_iff.1 (by simp only [toI, List.length_map] at h; omega)
            have := hp.sm
            rw [h0] at this
            simp at this
            omega
        rw [this]
    · intro _ _ _ h; simp at h
    · intro v _ _ _ _ _ _ x1 _ hx h; exact absurd h hx
    · intro v _ _ _ _ _ _ x1 _ _ x2 _ hx h; exact absurd h hx
    · intro v _ hb v0 v1 v2 v3 x1 e1 hx1 x2 e2 hx2 q _ rest f' hf
      have i1 := prv_chk hval hl f (mk.set v.toNat 1) (c ++ [v]) x (IntKind.i64.wrap (b - w.getD v.toNat 0)) (IntKind.i64.wrap (left - 1)) (rel_cho hr v0 (by rw [← hr.len]; exact v1) v2) (by rw [← e1]; exact hx1)
      have i2 := prv_chk hval hl f (mk.set v.toNat 2) c (x ++ [v]) b x1.2.2 (rel_exc hr v0 (by rw [← hr.len]; exact v1) v2) (by rw [← e2]; exact hx2)
      rw [← e1] at i1
      rw [← e2] at i2
      cases f' with
      | zero => simp at hf
      | succ f' =>
        simp only [List.cons_append, List.length_cons, List.length_append] at hf
        have k1 := i1 (x2.1.1 ++ rest) f' (by simp only [List.length_append]; omega)
        have k2 := i2 rest f' (by simp only [List.length_append]; omega)
        simp only [List.cons_append, chk, List.append_assoc]
        rw [if_neg v3, if_neg (by
          rintro (h | h | h | h)
          · omega
          · omega
          · simp at h
          · exact h v2), k1]
        exact k2

theorem prv_not (hval : validI w e = 0) (lo hi : Int) (hlo : -1000000000000000000 ≤ lo) (hhi : hi ≤ 1000000000000000000) : ∀ (f : Nat) (mk c x : List Int) (b left : Int), RelM w.length mk c x → lo + 1000000 * nz mk ≤ b → b ≤ hi →
    (prv w e f mk b left).1.2 = 11 → ∃ p : Nat → Bool, hitP e p ∧ (∀ u : Nat, mk.getD u 0 = 2 → p u = false) ∧ oW w mk p < b
  | 0, _, _, _, _, _, _, _, _ => fun h => by simp [prv] at h
  | f + 1, mk, c, x, b, left, hr, hb1, hb2 => by
    have hv : ∀ l ∈ e, ∀ v ∈ l, 0 ≤ v ∧ v.toNat < mk.length := fun l hl v hv => by
      have := (okE_mem ((valid_w hval).2.2 l hl)).1 v hv
      rw [hr.len]; exact this
    have hwv : ∀ v : Int, 0 ≤ v → v.toNat < mk.length → 1 ≤ w.getD v.toNat 0 ∧ w.getD v.toNat 0 ≤ 1000000 := fun v _ h => by
      rw [hr.len] at h
      rw [List.getD_eq_getElem?_getD, List.getElem?_eq_getElem h]; exact (valid_w hval).1 _ (List.getElem_mem h)
    have hnz : ∀ (v k : Int), 0 ≤ v → v.toNat < mk.length → mk.getD v.toNat 0 = 0 → k ≠ 0 → nz (mk.set v.toNat k) + 1 = nz mk := fun v k _ h1 h2 hk => nz_set hk mk v.toNat (by rw [getD_some h1, h2])
    refine prv_step (P := fun r => r.1.2 = 11 → ∃ p : Nat → Bool, hitP e p ∧ (∀ u : Nat, mk.getD u 0 = 2 → p u = false) ∧ oW w mk p < b) f mk b left hv ?_ ?_ ?_ ?_ ?_ ?_ ?_
    · intro _ h; simp at h
    · intro _ _ h; simp at h
    · intro _ _ _ h; simp at h
    · intro _ hb hall _
      refine ⟨fun i => decide (mk.getD i 0 = 1), fun l hl => ?_, fun u hu => by show decide (mk.getD u 0 = 1) = false; rw [hu]; rfl, ?_⟩
      · obtain ⟨v, hv, h⟩ := List.any_eq_true.1 (hall l hl)
        exact ⟨v, hv, h⟩
      · have : oW w mk (fun i => decide (mk.getD i 0 = 1)) = 0 := by
          have hz : ∀ n, sumP (opn mk fun i => decide (mk.getD i 0 = 1)) (fun i => w.getD i 0) n = 0 := by
            intro n
            induction n with
            | zero => rfl
            | succ n ih =>
              simp only [sumP, ih]
              rw [if_neg]
              · rfl
              · unfold opn
                simp only [Bool.and_eq_true, decide_eq_true_eq]
                omega
          exact hz _
        rw [this]; omega
    · intro v _ hb v0 v1 v2 v3 x1 e1 hx1 h
      simp only at h
      have hw := hwv v v0 v1
      have hwr : IntKind.i64.wrap (b - w.getD v.toNat 0) = b - w.getD v.toNat 0 := wrap64 _ (by omega) (by omega)
      have hn := hnz v 1 v0 v1 v2 (by omega)
      obtain ⟨p, hp, hex, ho⟩ := prv_not hval lo hi hlo hhi f (mk.set v.toNat 1) (c ++ [v]) x (IntKind.i64.wrap (b - w.getD v.toNat 0)) (IntKind.i64.wrap (left - 1)) (rel_cho hr v0 (by rw [← hr.len]; exact v1) v2) (by rw [hwr]; omega) (by rw [hwr]; omega) (by rw [← e1]; exact h)
      rw [hwr] at ho
      refine ⟨p, hp, fun u hu => hex u ?_, ?_⟩
      · rw [getD_set, if_neg (fun h => by rw [h.1, hu] at v2; omega)]; exact hu
      rw [oW_set (p := p) (k := 1) (by omega) hr.len (by rw [← hr.len]; exact v1) v2]
      split <;> omega
    · intro v _ hb v0 v1 v2 v3 x1 e1 hx1 x2 e2 hx2 h
      simp only at h
      have hn := hnz v 2 v0 v1 v2 (by omega)
      obtain ⟨p, hp, hex, ho⟩ := prv_not hval lo hi hlo hhi f (mk.set v.toNat 2) c (x ++ [v]) b x1.2.2 (rel_exc hr v0 (by rw [← hr.len]; exact v1) v2) (by omega) hb2 (by rw [← e2]; exact h)
      refine ⟨p, hp, fun u hu => hex u ?_, ?_⟩
      · rw [getD_set, if_neg (fun h => by rw [h.1, hu] at v2; omega)]; exact hu
      have hpv := hex v.toNat (by rw [getD_set, if_pos ⟨rfl, v1⟩])
      rw [oW_set (p := p) (k := 2) (by omega) hr.len (by rw [← hr.len]; exact v1) v2, hpv]
      simpa using ho
    · intro v _ _ _ _ _ _ x1 _ _ x2 _ _ q h; simp at h

/-- Powers of two. -/
def pow2 : Nat → Int
  | 0 => 1
  | n + 1 => pow2 n + pow2 n
theorem pow2_pos : ∀ n, 1 ≤ pow2 n
  | 0 => Int.le_refl _
  | n + 1 => by have := pow2_pos n; simp only [pow2]; omega
theorem pow2_mono {n m : Nat} (h : n ≤ m) : pow2 n ≤ pow2 m := by
  induction h with
  | refl => exact Int.le_refl _
  | step _ ih => have := pow2_pos n; simp only [pow2]; omega

/-- How many nodes it uses. -/
theorem prv_bud (hval : validI w e = 0) : ∀ (f : Nat) (mk : List Int) (b left : Int), w.length = mk.length → nz mk < f → pow2 f ≤ left + 1 → left ≤ 9223372036854775807 →
    ((prv w e f mk b left).1.2 = 0 ∨ (prv w e f mk b left).1.2 = 11) ∧ left + 1 ≤ (prv w e f mk b left).2.2 + pow2 f ∧ (prv w e f mk b left).2.2 ≤ left
  | 0, _, _, _, _, h, _, _ => by omega
  | f + 1, mk, b, left, hm, hf, hl, hl2 => by
    have hv : ∀ l ∈ e, ∀ v ∈ l, 0 ≤ v ∧ v.toNat < mk.length := fun l hl v hv => by
      have := (okE_mem ((valid_w hval).2.2 l hl)).1 v hv
      rw [← hm]; exact this
    have hp := pow2_pos f
    simp only [pow2] at hl ⊢
    have hw : IntKind.i64.wrap (left - 1) = left - 1 := wrap64 _ (by omega) (by omega)
    have hnz : ∀ (v k : Int), 0 ≤ v → v.toNat < mk.length → mk.getD v.toNat 0 = 0 → k ≠ 0 → nz (mk.set v.toNat k) + 1 = nz mk := fun v k _ h1 h2 hk => nz_set hk mk v.toNat (by rw [getD_some h1, h2])
    refine prv_step (P := fun r => (r.1.2 = 0 ∨ r.1.2 = 11) ∧ left + 1 ≤ r.2.2 + (pow2 f + pow2 f) ∧ r.2.2 ≤ left) f mk b left hv ?_ ?_ ?_ ?_ ?_ ?_ ?_
    · intro h; rw [hw] at h; omega
    · intro _ _; exact ⟨.inl rfl, by simp only [hw]; omega, by simp only [hw]; omega⟩
    · intro _ _ _; exact ⟨.inl rfl, by simp only [hw]; omega, by simp only [hw]; omega⟩
    · intro _ _ _; exact ⟨.inr rfl, by simp only [hw]; omega, by simp only [hw]; omega⟩
    · intro v _ _ v0 v1 v2 _ x1 e1 hx1
      have hn := hnz v 1 v0 v1 v2 (by omega)
      have i1 := prv_bud hval f (mk.set v.toNat 1) (IntKind.i64.wrap (b - w.getD v.toNat 0)) (IntKind.i64.wrap (left - 1)) (by rw [List.length_set]; exact hm) (by omega) (by rw [hw]; omega) (by rw [hw]; omega)
      rw [← e1, hw] at i1
      exact ⟨i1.1, by simp only; omega, by simp only; omega⟩
    · intro v _ _ v0 v1 v2 _ x1 e1 hx1 x2 e2 hx2
      have hn := hnz v 1 v0 v1 v2 (by omega)
      have hn2 := hnz v 2 v0 v1 v2 (by omega)
      have i1 := prv_bud hval f (mk.set v.toNat 1) (IntKind.i64.wrap (b - w.getD v.toNat 0)) (IntKind.i64.wrap (left - 1)) (by rw [List.length_set]; exact hm) (by omega) (by rw [hw]; omega) (by rw [hw]; omega)
      rw [← e1, hw] at i1
      have i2 := prv_bud hval f (mk.set v.toNat 2) b x1.2.2 (by rw [List.length_set]; exact hm) (by omega) (by omega) (by omega)
      rw [← e2] at i2
      exact ⟨i2.1, by simp only; omega, by simp only; omega⟩
    · intro v _ _ v0 v1 v2 _ x1 e1 hx1 x2 e2 hx2 q
      have hn := hnz v 1 v0 v1 v2 (by omega)
      have hn2 := hnz v 2 v0 v1 v2 (by omega)
      have i1 := prv_bud hval f (mk.set v.toNat 1) (IntKind.i64.wrap (b - w.getD v.toNat 0)) (IntKind.i64.wrap (left - 1)) (by rw [List.length_set]; exact hm) (by omega) (by rw [hw]; omega) (by rw [hw]; omega)
      rw [← e1, hw] at i1
      have i2 := prv_bud hval f (mk.set v.toNat 2) b x1.2.2 (by rw [List.length_set]; exact hm) (by omega) (by omega) (by omega)
      rw [← e2] at i2
      exact ⟨.inl rfl, by simp only; omega, by simp only; omega⟩

/-- It answers one of three errors; where it fails there are no nodes; there are no more nodes than it uses. -/
theorem prv_use (hval : validI w e = 0) : ∀ (f : Nat) (mk : List Int) (b left : Int), w.length = mk.length → 0 ≤ left → left ≤ 9223372036854775807 →
    ((prv w e f mk b left).1.2 = 0 ∧ ((prv w e f mk b left).1.1.length : Int) + (prv w e f mk b left).2.2 ≤ left ∧ 0 ≤ (prv w e f mk b left).2.2) ∨
    (((prv w e f mk b left).1.2 = 11 ∨ (prv w e f mk b left).1.2 = 13) ∧ (prv w e f mk b left).1.1 = [])
  | 0, _, _, _, _, _, _ => .inr ⟨.inr rfl, rfl⟩
  | f + 1, mk, b, left, hm, hl, hl2 => by
    have hv : ∀ l ∈ e, ∀ v ∈ l, 0 ≤ v ∧ v.toNat < mk.length := fun l hl v hv => by
      have := (okE_mem ((valid_w hval).2.2 l hl)).1 v hv
      rw [← hm]; exact this
    have hw : IntKind.i64.wrap (left - 1) = left - 1 := wrap64 _ (by omega) (by omega)
    refine prv_step (P := fun r => (r.1.2 = 0 ∧ (r.1.1.length : Int) + r.2.2 ≤ left ∧ 0 ≤ r.2.2) ∨ ((r.1.2 = 11 ∨ r.1.2 = 13) ∧ r.1.1 = [])) f mk b left hv ?_ ?_ ?_ ?_ ?_ ?_ ?_
    · intro _; exact .inr ⟨.inr rfl, rfl⟩
    · intro h _; exact .inl ⟨rfl, by simp only [hw, List.length_cons, List.length_nil]; omega, h⟩
    · intro h _ _; exact .inl ⟨rfl, by simp only [hw, List.length_cons, List.length_nil]; omega, h⟩
    · intro _ _ _; exact .inr ⟨.inl rfl, rfl⟩
    · intro v h0 _ v0 v1 v2 _ x1 e1 hx1
      have i1 := prv_use hval f (mk.set v.toNat 1) (IntKind.i64.wrap (b - w.getD v.toNat 0)) (IntKind.i64.wrap (left - 1)) (by rw [List.length_set]; exact hm) h0 (by rw [hw]; omega)
      rw [← e1] at i1
      rcases i1 with i1 | i1
      · exact absurd i1.1 hx1
      · exact .inr ⟨i1.1, rfl⟩
    · intro v h0 _ v0 v1 v2 _ x1 e1 hx1 x2 e2 hx2
      have i1 := prv_use hval f (mk.set v.toNat 1) (IntKind.i64.wrap (b - w.getD v.toNat 0)) (IntKind.i64.wrap (left - 1)) (by rw [List.length_set]; exact hm) h0 (by rw [hw]; omega)
      rw [← e1, hw] at i1
      rcases i1 with i1 | i1
      · have i2 := prv_use hval f (mk.set v.toNat 2) b x1.2.2 (by rw [List.length_set]; exact hm) i1.2.2 (by omega)
        rw [← e2] at i2
        rcases i2 with i2 | i2
        · exact absurd i2.1 hx2
        · exact .inr ⟨i2.1, rfl⟩
      · omega
    · intro v h0 _ v0 v1 v2 _ x1 e1 hx1 x2 e2 hx2 q
      have i1 := prv_use hval f (mk.set v.toNat 1) (IntKind.i64.wrap (b - w.getD v.toNat 0)) (IntKind.i64.wrap (left - 1)) (by rw [List.length_set]; exact hm) h0 (by rw [hw]; omega)
      rw [← e1, hw] at i1
      rcases i1 with i1 | i1
      · have i2 := prv_use hval f (mk.set v.toNat 2) b x1.2.2 (by rw [List.length_set]; exact hm) i1.2.2 (by omega)
        rw [← e2] at i2
        rcases i2 with i2 | i2
        · exact .inl ⟨rfl, by simp only [List.length_cons, List.length_append]; omega, i2.2.2⟩
        · omega
      · omega
end
end Go.Abs

namespace Go.Abs
open Go
set_option linter.unusedSimpArgs false
set_option maxHeartbeats 8000000
set_option maxRecDepth 8000

theorem nz_rep : ∀ n, nz (List.replicate n 0) = n
  | 0 => rfl
  | n + 1 => by simp only [List.replicate_succ, nz, if_true, nz_rep n]; omega

/-- What 'Prove' answers. -/
def proveI (w : List Int) (e : List (List Int)) (b bud : Int) : List Nd × Int :=
  if bud < 1 then ([], 1) else if inR b = true then (prv w e (w.length + 1) (List.replicate w.length 0) b bud).1 else ([], 7)

theorem call417 (w : List Int) (e : List (List Int)) (hw : w.length ≤ 8) (he : e.length ≤ 1048576) (hm : ∀ a ∈ e, a.length ≤ 1048576) (hval : validI w e = 0) (b bud : Int) (X : XHeap) :
    call XT 417 [.p (PV.agg [.rd 1 (w.map encI), .rd 1 (e.map fun l => [PV.rd 1 (l.map encI)])]), vI b, vI bud] X = some (.p (.tup [.rd 2 ((proveI w e b bud).1.map fun n => [pI n.1, .rd 2 (n.2.map encSI)]), pI (proveI w e b bud).2]), X) := by
  refine call_pure (F := f417) (args := [PV.agg [.rd 1 (w.map encI), .rd 1 (e.map fun l => [PV.rd 1 (l.map encI)])], pI b, pI bud]) T417 rfl rfl ?_
  unfold f417 x417
  have hc := call401 w e hm (by omega) he
  by_cases c1 : bud < 1
  · have hr : proveI w e b bud = ([], 1) := by unfold proveI; rw [if_pos c1]
    rw [hr]
    simp only [↓sxP, sxQ, xai, xgo, xop, xG, AOp.touched, oldX, nwX, newX, xo, xput, refX, xbin, xint, loadP, loadX, ofC, xcells, xagg, Nat.blt, Value.oneCell', refsO, okGc, renO, rI, coX, Option.isSome, outS, outT, resX, tupX, lend1, lend0, scalX, xsb, pvX, zeroX, spliceG, xapp, xappP, xrd, eqP1, xstr, zpv, Nat.beq, Nat.ble, ↓reduceIte, Nat.reduceAdd, Nat.reduceLeDiff, Nat.reduceBEq, Nat.reduceEqDiff, Nat.reduceLT, Nat.reduceSub, Nat.reduceMul, Int.reduceLT, Int.reduceLE, Int.reduceAdd, Int.reduceSub, Int.reduceNeg, Int.reduceToNat, Int.reduceEq, reduceCtorEq, norm_cons, norm_nil, normB, pOwn, pSel, gcS, reach, addN, getO, live, gcH, maxEl, P401, hc, hval, c1]
  · by_cases c2 : b < -1000000000000000
    · have hr : proveI w e b bud = ([], 7) := by
        unfold proveI; rw [if_neg c1, if_neg]
        simp only [inR, Bool.and_eq_true, decide_eq_true_eq]; omega
      rw [hr]
      simp only [↓sxP, sxQ, xai, xgo, xop, xG, AOp.touched, oldX, nwX, newX, xo, xput, refX, xbin, xint, loadP, loadX, ofC, xcells, xagg, Nat.blt, Value.oneCell', refsO, okGc, renO, rI, coX, Option.isSome, outS, outT, resX, tupX, lend1, lend0, scalX, xsb, pvX, zeroX, spliceG, xapp, xappP, xrd, eqP1, xstr, zpv, Nat.beq, Nat.ble, ↓reduceIte, Nat.reduceAdd, Nat.reduceLeDiff, Nat.reduceBEq, Nat.reduceEqDiff, Nat.reduceLT, Nat.reduceSub, Nat.reduceMul, Int.reduceLT, Int.reduceLE, Int.reduceAdd, Int.reduceSub, Int.reduceNeg, Int.reduceToNat, Int.reduceEq, reduceCtorEq, norm_cons, norm_nil, normB, pOwn, pSel, gcS, reach, addN, getO, live, gcH, maxEl, P401, hc, hval, c1, c2]
    · by_cases c3 : 1000000000000000 < b
      · have hr : proveI w e b bud = ([], 7) := by
          unfold proveI; rw [if_neg c1, if_neg]
          simp only [inR, Bool.and_eq_true, decide_eq_true_eq]; omega
        rw [hr]
        simp only [↓sxP, sxQ, xai, xgo, xop, xG, AOp.touched, oldX, nwX, newX, xo, xput, refX, xbin, xint, loadP, loadX, ofC, xcells, xagg, Nat.blt, Value.oneCell', refsO, okGc, renO, rI, coX, Option.isSome, outS, outT, resX, tupX, lend1, lend0, scalX, xsb, pvX, zeroX, spliceG, xapp, xappP, xrd, eqP1, xstr, zpv, Nat.beq, Nat.ble, ↓reduceIte, Nat.reduceAdd, Nat.reduceLeDiff, Nat.reduceBEq, Nat.reduceEqDiff, Nat.reduceLT, Nat.reduceSub, Nat.reduceMul, Int.reduceLT, Int.reduceLE, Int.reduceAdd, Int.reduceSub, Int.reduceNeg, Int.reduceToNat, Int.reduceEq, reduceCtorEq, norm_cons, norm_nil, normB, pOwn, pSel, gcS, reach, addN, getO, live, gcH, maxEl, P401, hc, hval, c1, c2, c3]
      · have hr : proveI w e b bud = (prv w e (w.length + 1) (List.replicate w.length 0) b bud).1 := by
          unfold proveI; rw [if_neg c1, if_pos]
          simp only [inR, Bool.and_eq_true, decide_eq_true_eq]; omega
        rw [hr]
        have k1 := call429 (X := [some (.mx 2 [[.p (.rd 1 (w.map encI)), .p (.rd 1 (e.map fun l => [PV.rd 1 (l.map encI)]))]])]) rfl w e bud (by omega)
        have hp : 2 ^ (w.length + 1) ≤ 1048576 := by
          have h1 : 2 ^ (w.length + 1) ≤ 2 ^ 9 := Nat.pow_le_pow_right (by omega) (by omega)
          have h2 : 2 ^ 9 = 512 := rfl
          omega
        have k2 := call439 w e (by omega) he hm 1 2 (w.length + 1) [some (.mx 2 [[.p (.rd 1 (w.map encI)), .p (.rd 1 (e.map fun l => [PV.rd 1 (l.map encI)]))]]), some (.mx 4 [[.p (.rd 1 (w.map encI)), .p (.rd 1 (e.map fun l => [PV.rd 1 (l.map encI)])), .ref 2 0 w.length, vI bud]]), some (.pu 1 ((List.replicate w.length (0 : Int)).map encI))] (List.replicate w.length 0) b bud (by rw [nz_rep]; omega) rfl (by simp) rfl (by simp)
          (fun l hl v hv => by
            have := (okE_mem ((valid_w hval).2.2 l hl)).1 v hv
            simpa using this) hp
        simp only [List.length_cons, List.length_nil, Nat.zero_add, List.cons_append, List.nil_append, Nat.reduceAdd] at k1 k2
        simp only [↓sxP, sxQ, xai, xgo, xop, xG, AOp.touched, oldX, nwX, newX, xo, xput, refX, xbin, xint, loadP, loadX, ofC, xcells, xagg, Nat.blt, Value.oneCell', refsO, okGc, renO, rI, coX, Option.isSome, outS, outT, resX, tupX, lend1, lend0, scalX, xsb, pvX, zeroX, spliceG, xapp, xappP, xrd, eqP1, xstr, zpv, Nat.beq, Nat.ble, ↓reduceIte, Nat.reduceAdd, Nat.reduceLeDiff, Nat.reduceBEq, Nat.reduceEqDiff, Nat.reduceLT, Nat.reduceSub, Nat.reduceMul, Int.reduceLT, Int.reduceLE, Int.reduceAdd, Int.reduceSub, Int.reduceNeg, Int.reduceToNat, Int.reduceEq, reduceCtorEq, norm_cons, norm_nil, normB, pOwn, pSel, gcS, reach, addN, getO, live, gcH, maxEl, P401, hc, hval, c1, c2, c3, P429, k1, P439, k2]

/-- What 'Prove' answers is as it is specified. -/
theorem proveI_spec {w : List Int} {e : List (List Int)} (hw : w.length ≤ 8) (hval : validI w e = 0) (hl : e.length ≤ 2000) {b bud : Int} (hb : 1 ≤ bud) (hb2 : bud ≤ 9223372036854775807) (hr : inR b = true) :
    ((proveI w e b bud).2 = 13 → bud < 10000 ∧ (proveI w e b bud).1 = []) ∧ ((proveI w e b bud).2 ≠ 13 → least w e < b → (proveI w e b bud).2 = 11 ∧ (proveI w e b bud).1 = []) ∧
    ((proveI w e b bud).2 ≠ 13 → ¬ least w e < b → (proveI w e b bud).2 = 0 ∧ ((proveI w e b bud).1.length : Int) ≤ bud ∧ checkP w e b (proveI w e b bud).1 = true) := by
  have hp : proveI w e b bud = (prv w e (w.length + 1) (List.replicate w.length 0) b bud).1 := by
    unfold proveI; rw [if_neg (by omega), if_pos hr]
  rw [hp]
  have hrl := rel_start w.length
  have hbb := hr
  simp only [inR, Bool.and_eq_true, decide_eq_true_eq] at hbb
  have hlen : w.length = (List.replicate w.length (0 : Int)).length := by simp
  have hz := nz_rep w.length
  have huse := prv_use hval (w.length + 1) (List.replicate w.length 0) b bud hlen (by omega) hb2
  have hbud := prv_bud hval (w.length + 1) (List.replicate w.length 0) b bud hlen (by rw [hz]; omega)
  have hchk := prv_chk hval hl (w.length + 1) (List.replicate w.length 0) [] [] b bud hrl
  have hnot := prv_not hval (-100000000000000000) 1000000000000000 (by omega) (by omega) (w.length + 1) (List.replicate w.length 0) [] [] b bud hrl (by rw [hz]; omega) hbb.2
  have h9 : pow2 (w.length + 1) ≤ 512 := by
    have := pow2_mono (n := w.length + 1) (m := 9) (by omega)
    have h : pow2 9 = 512 := rfl
    omega
  have hcnt := prv_cnt w e (w.length + 1) (List.replicate w.length 0) b bud
  have hpp2 : 2 ^ (w.length + 1) ≤ 512 := by
    have h1 : 2 ^ (w.length + 1) ≤ 2 ^ 9 := Nat.pow_le_pow_right (by omega) (by omega)
    have h2 : 2 ^ 9 = 512 := rfl
    omega
  generalize prv w e (w.length + 1) (List.replicate w.length 0) b bud = r at *
  obtain ⟨⟨nd, er⟩, ⟨q, l⟩⟩ := r
  simp only at *
  have hcp : er = 0 → checkP w e b nd = true := fun h => by
    have k := hchk h [] nd.length (by simp)
    rw [List.append_nil] at k
    unfold checkP
    rw [if_pos ⟨hval, hr⟩, k]
    rfl
  refine ⟨fun h => ?_, fun h hlt => ?_, fun h hlt => ?_⟩
  · rcases huse with u | u
    · omega
    · refine ⟨?_, u.2⟩
      apply Classical.byContradiction
      intro hn
      have := hbud (by omega) hb2
      omega
  · rcases huse with u | u
    · exfalso
      have k := hcp u.1
      have := check_sound (by omega) k
      omega
    · exact ⟨u.1.resolve_right h, u.2⟩
  · rcases huse with u | u
    · exact ⟨u.1, by omega, hcp u.1⟩
    · exfalso
      obtain ⟨p, hpp, _, ho⟩ := hnot (u.1.resolve_right h)
      have := least_le hval hpp
      have heq : oW w (List.replicate w.length 0) p = sumP p (fun i => w.getD i 0) w.length := by
        unfold oW
        congr 1
        funext i
        have hz : (List.replicate w.length (0 : Int)).getD i 0 = 0 := by
          rw [List.getD_eq_getElem?_getD, List.getElem?_replicate]; split <;> rfl
        unfold opn
        rw [hz]
        simp
      rw [wtS_sum, ← heq] at this
      omega

theorem proveI_len {w : List Int} {e : List (List Int)} (hw : w.length ≤ 8) (hval : validI w e = 0) (b bud : Int) : (proveI w e b bud).1.length ≤ 1048576 := by
  have hcnt := prv_cnt w e (w.length + 1) (List.replicate w.length 0) b bud
  have hpp2 : 2 ^ (w.length + 1) ≤ 512 := by
    have h1 : 2 ^ (w.length + 1) ≤ 2 ^ 9 := Nat.pow_le_pow_right (by omega) (by omega)
    have h2 : 2 ^ 9 = 512 := rfl
    omega
  unfold proveI
  split
  · simp
  · split
    · omega
    · simp

theorem packR_len (mk : List Int) : ∀ (e : List (List Int)) (i : Nat) (room : List Int) (out : List (Nat × Int)) (s : Int), (packR mk e i room out s).1.length ≤ out.length + e.length
  | [], _, _, _, _ => by simp [packR]
  | l :: r, i, room, out, s => by
    simp only [packR, List.length_cons]
    split
    · have := packR_len mk r (i + 1) room out s; omega
    · split
      · have := packR_len mk r (i + 1) room out s; omega
      · have := packR_len mk r (i + 1) (subR (amt mk room l 1000000) l room) (out ++ [(i, amt mk room l 1000000)]) (IntKind.i64.wrap (s + amt mk room l 1000000))
        simp only [List.length_append, List.length_cons, List.length_nil] at this
        omega

theorem prv_mem {w : List Int} {e : List (List Int)} (hval : validI w e = 0) : ∀ (f : Nat) (mk : List Int) (b left : Int), w.length = mk.length → ∀ n ∈ (prv w e f mk b left).1.1, n.2.length ≤ e.length
  | 0, _, _, _, _ => fun n h => by simp [prv] at h
  | f + 1, mk, b, left, hm => by
    have hv : ∀ l ∈ e, ∀ v ∈ l, 0 ≤ v ∧ v.toNat < mk.length := fun l hl v hv => by
      have := (okE_mem ((valid_w hval).2.2 l hl)).1 v hv
      rw [← hm]; exact this
    refine prv_step (P := fun r => ∀ n ∈ r.1.1, n.2.length ≤ e.length) f mk b left hv ?_ ?_ ?_ ?_ ?_ ?_ ?_
    · intro _ n h; cases h
    · intro _ _ n h; rw [List.mem_singleton.1 h]; exact Nat.zero_le _
    · intro _ _ _ n h
      rw [List.mem_singleton.1 h]
      have := packR_len mk e 0 w [] 0
      simp only [toI, List.length_map, List.length_nil] at this ⊢
      omega
    · intro _ _ _ n h; cases h
    · intro v _ _ _ _ _ _ x1 _ _ n h; cases h
    · intro v _ _ _ _ _ _ x1 _ _ x2 _ _ n h; cases h
    · intro v _ _ _ _ _ _ x1 e1 _ x2 e2 _ q n h
      rcases List.mem_cons.1 h with h | h
      · rw [h]; exact Nat.zero_le _
      · rcases List.mem_append.1 h with h | h
        · exact prv_mem hval f (mk.set v.toNat 1) _ _ (by rw [List.length_set]; exact hm) n (by rw [← e1]; exact h)
        · exact prv_mem hval f (mk.set v.toNat 2) _ _ (by rw [List.length_set]; exact hm) n (by rw [← e2]; exact h)

theorem proveI_mem {w : List Int} {e : List (List Int)} (hval : validI w e = 0) (b bud : Int) : ∀ n ∈ (proveI w e b bud).1, n.2.length ≤ e.length := by
  unfold proveI
  split
  · intro n h; cases h
  · split
    · exact prv_mem hval _ _ _ _ (by simp)
    · intro n h; cases h

theorem law397 (ws es : List Nat) (hb : ∀ x ∈ es, x < 65536) (b bud : Int) (hbud : bud ≤ 9223372036854775807) (X : XHeap) : call XT 397 [.p (PV.agg [.rd 1 (ws.map enc8), .rd 1 (es.map enc16)]), vI b, vI bud] X = some (vB true, X) := by
  refine call_pure (F := f397) (args := [PV.agg [.rd 1 (ws.map enc8), .rd 1 (es.map enc16)], pI b, pI bud]) T397 rfl rfl ?_
  unfold f397 x397
  by_cases h : ws.length ≤ 8 ∧ es.length ≤ 12
  · obtain ⟨hw, hl⟩ := h
    have hv := of_valid ws es hw hl
    have ho := edgs_ok ws.length es
    have hm : ∀ a ∈ edgs ws.length es, a.length ≤ 1048576 := fun a ha => by have := (ho.2 a ha).2; omega
    have hwl : (ws.map wgt).length = ws.length := by simp
    have k0 := fun X => call403 ws es hw hl hb X
    generalize ws.map wgt = w at hv hwl k0
    generalize edgs ws.length es = e at hv ho hm k0
    have hE : e.map encL1 = e.map fun l => [PV.rd 1 (l.map encI)] := rfl
    rw [hE] at k0
    have k7 := fun X => call417 w e (by omega) (by omega) hm hv b bud X
    have k4 := fun X => call408 w e (by omega) (by omega) hm X
    have k8 := fun X => call418 b X
    have hnl := proveI_len (by omega) hv b bud
    have hnm := fun n hn => Nat.le_trans (proveI_mem hv b bud n hn) (show e.length ≤ 1048576 by omega)
    have k1 := fun X => call411 w e (by omega) (by omega) hm b (proveI w e b bud).1 hnl hnm X
    have k2 := fun X => call412 w e (by omega) (by omega) hm b (proveI w e b bud).1 hnl hnm X
    rw [← check_eq] at k2
    by_cases c1 : bud < 1
    · have hr : proveI w e b bud = ([], 1) := by unfold proveI; rw [if_pos c1]
      rw [hr] at k7
      simp only [↓sxP, sxQ, xai, xgo, xop, xG, AOp.touched, oldX, nwX, newX, xo, xput, refX, xbin, xint, loadP, loadX, ofC, xcells, xagg, Nat.blt, Value.oneCell', refsO, okGc, renO, rI, coX, Option.isSome, outS, outT, resX, tupX, lend1, lend0, scalX, xsb, pvX, zeroX, spliceG, xapp, xappP, xrd, eqP1, xstr, zpv, Nat.beq, Nat.ble, ↓reduceIte, Nat.reduceAdd, Nat.reduceLeDiff, Nat.reduceBEq, Nat.reduceEqDiff, Nat.reduceLT, Nat.reduceSub, Nat.reduceMul, Int.reduceLT, Int.reduceLE, Int.reduceAdd, Int.reduceSub, Int.reduceNeg, Int.reduceToNat, Int.reduceEq, reduceCtorEq, norm_cons, norm_nil, normB, pOwn, pSel, gcS, reach, addN, getO, live, gcH, P403, k0, maxEl, List.replicate, List.set, P400, awake_any, c1, P417, k7, P408, k4, Int.natCast_zero]
    · by_cases c2 : inR b = true
      · have hs := proveI_spec (by omega) hv (by omega) (b := b) (bud := bud) (by omega) hbud c2
        by_cases c3 : (proveI w e b bud).2 = 13
        · obtain ⟨s1, s2⟩ := hs.1 c3
          rw [s2] at k7
          simp only [↓sxP, sxQ, xai, xgo, xop, xG, AOp.touched, oldX, nwX, newX, xo, xput, refX, xbin, xint, loadP, loadX, ofC, xcells, xagg, Nat.blt, Value.oneCell', refsO, okGc, renO, rI, coX, Option.isSome, outS, outT, resX, tupX, lend1, lend0, scalX, xsb, pvX, zeroX, spliceG, xapp, xappP, xrd, eqP1, xstr, zpv, Nat.beq, Nat.ble, ↓reduceIte, Nat.reduceAdd, Nat.reduceLeDiff, Nat.reduceBEq, Nat.reduceEqDiff, Nat.reduceLT, Nat.reduceSub, Nat.reduceMul, Int.reduceLT, Int.reduceLE, Int.reduceAdd, Int.reduceSub, Int.reduceNeg, Int.reduceToNat, Int.reduceEq, reduceCtorEq, norm_cons, norm_nil, normB, pOwn, pSel, gcS, reach, addN, getO, live, gcH, P403, k0, maxEl, List.replicate, List.set, P400, awake_any, c1, P417, k7, P408, k4, P418, k8, c2, c3, s1, Int.natCast_zero]
        · by_cases c4 : least w e < b
          · obtain ⟨s1, s2⟩ := hs.2.1 c3 c4
            rw [s2] at k7
            simp only [↓sxP, sxQ, xai, xgo, xop, xG, AOp.touched, oldX, nwX, newX, xo, xput, refX, xbin, xint, loadP, loadX, ofC, xcells, xagg, Nat.blt, Value.oneCell', refsO, okGc, renO, rI, coX, Option.isSome, outS, outT, resX, tupX, lend1, lend0, scalX, xsb, pvX, zeroX, spliceG, xapp, xappP, xrd, eqP1, xstr, zpv, Nat.beq, Nat.ble, ↓reduceIte, Nat.reduceAdd, Nat.reduceLeDiff, Nat.reduceBEq, Nat.reduceEqDiff, Nat.reduceLT, Nat.reduceSub, Nat.reduceMul, Int.reduceLT, Int.reduceLE, Int.reduceAdd, Int.reduceSub, Int.reduceNeg, Int.reduceToNat, Int.reduceEq, reduceCtorEq, norm_cons, norm_nil, normB, pOwn, pSel, gcS, reach, addN, getO, live, gcH, P403, k0, maxEl, List.replicate, List.set, P400, awake_any, c1, P417, k7, P408, k4, P418, k8, c2, c3, s1, c4, Int.natCast_zero]
          · obtain ⟨s1, s2, s3⟩ := hs.2.2 c3 c4
            simp only [↓sxP, sxQ, xai, xgo, xop, xG, AOp.touched, oldX, nwX, newX, xo, xput, refX, xbin, xint, loadP, loadX, ofC, xcells, xagg, Nat.blt, Value.oneCell', refsO, okGc, renO, rI, coX, Option.isSome, outS, outT, resX, tupX, lend1, lend0, scalX, xsb, pvX, zeroX, spliceG, xapp, xappP, xrd, eqP1, xstr, zpv, Nat.beq, Nat.ble, ↓reduceIte, Nat.reduceAdd, Nat.reduceLeDiff, Nat.reduceBEq, Nat.reduceEqDiff, Nat.reduceLT, Nat.reduceSub, Nat.reduceMul, Int.reduceLT, Int.reduceLE, Int.reduceAdd, Int.reduceSub, Int.reduceNeg, Int.reduceToNat, Int.reduceEq, reduceCtorEq, norm_cons, norm_nil, normB, pOwn, pSel, gcS, reach, addN, getO, live, gcH, P403, k0, maxEl, List.replicate, List.set, P400, awake_any, c1, P417, k7, P408, k4, P418, k8, c2, c3, s1, s2, s3, c4, P411, k1, P412, k2]
      · have c2' : inR b = false := by simpa using c2
        have hr : proveI w e b bud = ([], 7) := by unfold proveI; rw [if_neg c1, if_neg c2]
        rw [hr] at k7
        simp only [↓sxP, sxQ, xai, xgo, xop, xG, AOp.touched, oldX, nwX, newX, xo, xput, refX, xbin, xint, loadP, loadX, ofC, xcells, xagg, Nat.blt, Value.oneCell', refsO, okGc, renO, rI, coX, Option.isSome, outS, outT, resX, tupX, lend1, lend0, scalX, xsb, pvX, zeroX, spliceG, xapp, xappP, xrd, eqP1, xstr, zpv, Nat.beq, Nat.ble, ↓reduceIte, Nat.reduceAdd, Nat.reduceLeDiff, Nat.reduceBEq, Nat.reduceEqDiff, Nat.reduceLT, Nat.reduceSub, Nat.reduceMul, Int.reduceLT, Int.reduceLE, Int.reduceAdd, Int.reduceSub, Int.reduceNeg, Int.reduceToNat, Int.reduceEq, reduceCtorEq, norm_cons, norm_nil, normB, pOwn, pSel, gcS, reach, addN, getO, live, gcH, P403, k0, maxEl, List.replicate, List.set, P400, awake_any, c1, P417, k7, P408, k4, P418, k8, c2', Int.natCast_zero]
  · have k0 := fun X => bad403 ws es h X
    simp only [↓sxP, sxQ, xai, xgo, xop, xG, AOp.touched, oldX, nwX, newX, xo, xput, refX, xbin, xint, loadP, loadX, ofC, xcells, xagg, Nat.blt, Value.oneCell', refsO, okGc, renO, rI, coX, Option.isSome, outS, outT, resX, tupX, lend1, lend0, scalX, xsb, pvX, zeroX, spliceG, xapp, xappP, xrd, eqP1, xstr, zpv, Nat.beq, Nat.ble, ↓reduceIte, Nat.reduceAdd, Nat.reduceLeDiff, Nat.reduceBEq, Nat.reduceEqDiff, Nat.reduceLT, Nat.reduceSub, Nat.reduceMul, Int.reduceLT, Int.reduceLE, Int.reduceAdd, Int.reduceSub, Int.reduceNeg, Int.reduceToNat, Int.reduceEq, reduceCtorEq, norm_cons, norm_nil, normB, pOwn, pSel, gcS, reach, addN, getO, live, gcH, P403, k0, maxEl, List.replicate, List.set, P400, awake_any]
end Go.Abs
